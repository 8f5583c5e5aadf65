/- Part of a proof: walks of functions of the program, by contracts, and the rules they use. By an AI agent. -/
import Derived.Test.YthedbjfipmkpiaaGreatDoorPl11c
import Derived.Lib.ItoaLen
import Derived.Test.YthedbjfipmkpiaaGreatDoorHdSb
import Derived.Test.YthedbjfipmkpiaaGreatDoorHlTlaw
import Derived.Sort.Grow
import Derived.Sort.EncStr
import Derived.Test.YthedbjfipmkpiaaGreatDoorPl31
import Derived.Shelf.LaysM
import Derived.Shelf.Strconv.Itoa4
import Derived.Shelf.Strings.BuilderK
import Derived.Test.YthedbjfipmkpiaaGreatDoorChecked
import Derived.WalkKit
import Derived.BigCall
set_option linter.unusedSimpArgs false
set_option linter.unusedVariables false
set_option linter.defProp false
namespace Go.Pl
open Go Go.Hl
section
variable {α:Type}{p:α→Bool}{l:List α}
theorem aD9 {i:Nat}(hi:i<l.length)(h:p l[i]=false)(h0: ∀x∈l.take i,p x=false): ∀x∈l.take (i+1),p x=false:=fun x hx=>by
 rw[List.take_succ_eq_append_getElem hi,List.mem_append,List.mem_singleton]at hx;rcases hx with hx|rfl
 · exact h0 x hx
 · exact h
end
theorem aQ7 : ∀{a b:List UInt8} {i:Nat} (ha:i<a.length) (hb:i<b.length),a.take i=b.take i→a[i]≠b[i]→slt a b=decide (a[i]<b[i])
 |x::a,y::b,0,_,_,_,hne=>by
  simp only[List.getElem_cons_zero]at hne⊢;have:(x==y)=false:=by simpa using hne
  simp[slt,Op.bytesLess,this]
 |x::a,y::b,i+1,ha,hb,h,hne=>by
  simp only[List.take_succ_cons,List.cons.injEq,List.getElem_cons_succ]at h hne⊢;obtain⟨rfl,h⟩:=h;have:=aQ7 (by simpa using ha) (by simpa using hb) h hne;rw[←this];simp[slt,Op.bytesLess]
theorem aQ8 : ∀a:List UInt8,slt a a=false
 |[]=>rfl
 |x::a=>by simpa[slt,Op.bytesLess]using aQ8 a
variable {i:Nat}
theorem cN6 {a b:Dig}(hi:i<32)(h:a.1.take i=b.1.take i)(hne:a.1[i]'(by rw[a.2];exact hi)≠b.1[i]'(by rw[b.2];exact hi)):dlt a b=decide (a.1[i]'(by rw[a.2];exact hi)<b.1[i]'(by rw[b.2];exact hi)):=
 aQ7 _ _ h hne
theorem bV4 {a b:Dig}(h:a.1.take 32=b.1.take 32):dlt a b=false:=by
 rw[List.take_of_length_le (by rw[a.2];exact Nat.le_refl _),List.take_of_length_le (by rw[b.2];exact Nat.le_refl _)]at h;unfold dlt;rw[h];exact aQ8 _
theorem bV5 {d:Dig}(h:i<32):CV.getAt i 1 false (dg d)=some (u8 (d.1[i]'(by rw[d.2];exact h))):=cN2 (l:=d.1) (by rw[d.2];exact h)
theorem cL3 (a b:UInt8):((a.toNat:Int) !=(b.toNat:Int))=!(a==b):=by
 rw[Bool.eq_iff_iff];simp only[bne_iff_ne,ne_eq,Bool.not_eq_true',beq_eq_false_iff_ne];constructor
 · intro h e;exact h (by rw[e])
 · intro h e;exact h (UInt8.toNat_inj.1 (by omega))
theorem cT1 (a b:UInt8):decide ((a.toNat:Int)<(b.toNat:Int))=decide (a<b):=by
 rw[Bool.eq_iff_iff];simp[UInt8.lt_iff_toNat_lt]
def alZ (c:UInt8):Bool:=(decide (97≤(c.toNat:Int))&&decide ((c.toNat:Int)≤122))||(decide (48≤(c.toNat:Int))&&decide ((c.toNat:Int)≤57))
def puZ (c:UInt8):Bool:=((c.toNat:Int)==46)||(((c.toNat:Int)==95)||((c.toNat:Int)==45))
def okc (i:Nat)(c:UInt8):Bool:=alZ c||(decide (0<(i:Int))&&puZ c)
theorem cT2 (c:UInt8):al c=alZ c:=by
 have h1:decide ((97:UInt8)≤c)=decide (97≤(c.toNat:Int)):=by rw[Bool.eq_iff_iff];simp only[decide_eq_true_eq,UInt8.le_iff_toNat_le];show 97≤c.toNat↔_;omega
 have h2:decide (c≤(122:UInt8))=decide ((c.toNat:Int)≤122):=by rw[Bool.eq_iff_iff];simp only[decide_eq_true_eq,UInt8.le_iff_toNat_le];show c.toNat≤122↔_;omega
 have h3:decide ((48:UInt8)≤c)=decide (48≤(c.toNat:Int)):=by rw[Bool.eq_iff_iff];simp only[decide_eq_true_eq,UInt8.le_iff_toNat_le];show 48≤c.toNat↔_;omega
 have h4:decide (c≤(57:UInt8))=decide ((c.toNat:Int)≤57):=by rw[Bool.eq_iff_iff];simp only[decide_eq_true_eq,UInt8.le_iff_toNat_le];show c.toNat≤57↔_;omega
 grind[al,alZ]
theorem cW3 (c d:UInt8):(c==d)=((c.toNat:Int)==(d.toNat:Int)):=by
 rw[Bool.eq_iff_iff];simp only[beq_iff_eq];constructor
 · grind
 grind[UInt8.toNat_inj]
theorem cW4 (c:UInt8):nc c=(alZ c||puZ c):=by simp_all[nc,puZ,cT2,cW3]
variable {s:aL}
theorem lW :eR s=true↔(1≤s.length∧s.length≤64)∧ ∀i (h:i<s.length),okc i s[i]=true:=by
 cases s with
 |nil=>simp[eR]
 |cons c r=>
  simp only[eR,Bool.and_eq_true,decide_eq_true_eq,List.all_eq_true,cT2,cW4];constructor
  ·
   rintro⟨h1,h2,h3⟩;refine⟨⟨by simp,h1⟩,fun i hi=>?_⟩;cases i with
   |zero=>simp[okc,h2]
   |succ i=>
    have:=h3 _ (List.getElem_mem (by grind:i<r.length));simp only[List.getElem_cons_succ];unfold okc;grind
  ·
   rintro⟨⟨_,h1⟩,h3⟩;refine⟨h1,?_,fun x hx=>?_⟩
   · grind[okc]
   · obtain⟨i,hi,rfl⟩:=List.mem_iff_getElem.1 hx;have:=h3 (i+1) (by grind);simp only[List.getElem_cons_succ]at this;unfold okc at this;grind
theorem aE0 (h: ¬(1≤s.length∧s.length≤64)):eR s=false:=by grind[eR,absurd,lW]
theorem aE1 (hi:i<s.length)(h:okc i s[i]=false):eR s=false:=by grind[eR,lW]
theorem bL1 (hi:i<s.length)(h:okc i s[i]=true)(h0: ∀j (_:j<i) (h:j<s.length),okc j s[j]=true): ∀j (_:j<i+1) (h:j<s.length),okc j s[j]=true:=fun j hj h'=>by grind
def gH (s:aL):Bool:=(s==[])||(decide (64<(s.length:Int))||(((gb s 0).toNat:Int)==46||(((gb s 0).toNat:Int)==95||((gb s 0).toNat:Int)==45)))
theorem aZ0 (h:gH s=true):eR s=false:=by
 cases s with
 |nil=>rfl
 |cons c r=>
  cases hn:eR (c::r)
  · rfl
  · obtain⟨⟨h1,h2⟩,h3⟩:=lW.1 hn;have h4:=h3 0 (by simp);simp only[gH,gb,List.getD_cons_zero,Bool.or_eq_true,decide_eq_true_eq,beq_iff_eq]at h;grind[okc,alZ,List.length_cons]
theorem bL2 (h:gH s=false)(hall: ∀j (h:j<s.length),(alZ s[j]||puZ s[j])=true):eR s=true:=by
 cases s with
 |nil=>simp[gH]at h
 |cons c r=>
  simp only[gH,gb,List.getD_cons_zero,Bool.or_eq_false_iff,decide_eq_false_iff_not]at h;obtain⟨_,h1,h2,h3,h4⟩:=h;refine lW.2 ⟨⟨by simp,by grind⟩,fun i hi=>?_⟩;have:=hall i hi;cases i with
  |zero=>
   simp_all[List.getElem_cons_zero,puZ,Bool.or_false,okc]
  |succ i=>
   have h0:decide (0<((i+1:Nat):Int))=true:=by simp only[decide_eq_true_eq];omega
   simp_all[okc,Bool.true_and]
variable {j:Nat}
theorem aZ1 (hj:j<s.length)(h:(alZ s[j]||puZ s[j])=false):eR s=false:=
 aE1 hj (by grind[alZ,puZ,okc])
section
variable {α β:Type}
def bL3 (r:α→α→Bool):List α→Bool
 |a::b::l=>r a b&&bL3 r (b::l)
 |_=>true
theorem aQ9 {r:α→α→Bool}: ∀{l:List α},bL3 r l=true↔ ∀i (h:i+1<l.length),r l[i] l[i+1]=true
 |[]=>by simp[bL3]
 |[a]=>by simp[bL3]
 |a::b::l=>by
  have ih:=aQ9 (r:=r) (l:=b::l);simp only[bL3,Bool.and_eq_true,ih];constructor
  ·
   rintro⟨h1,h2⟩ i hi;cases i with
   |zero=>exact h1
   |succ i=>exact h2 i (by simpa using hi)
  · intro h;exact⟨h 0 (by simp),fun i hi=>h (i+1) (by simpa using hi)⟩
def GoodTo (p:α→Bool)(r:α→α→Bool)(l:List α)(i:Nat):Prop:=(∀j (h:j<l.length),j<i→p l[j]=true)∧ ∀j (h:j+1<l.length),j+1<i→r l[j] l[j+1]=true
variable {p:α→Bool}{r:α→α→Bool}{l:List α}
theorem GoodTo.zero :GoodTo p r l 0:=⟨fun j _ h=>by omega,fun j _ h=>by omega⟩
theorem GoodTo.one (hi:0<l.length)(h:p l[0]=true):GoodTo p r l 1:=by
 refine⟨fun j h' hj=>?_,fun j _ h=>by omega⟩;have:j=0:=by omega
 subst this;exact h
theorem GoodTo.succ {i:Nat}(hi:i+1<l.length)(h:p l[i+1]=true)(hr:r l[i] l[i+1]=true)(h0:GoodTo p r l (i+1)):GoodTo p r l (i+1+1):=by
 refine⟨fun j h' hj=>?_,fun j h' hj=>?_⟩
 ·
  rcases Nat.lt_or_ge j (i+1)with h1|h1
  · exact h0.1 j h' h1
  ·
   have:j=i+1:=by omega
   subst this;exact h
 ·
  rcases Nat.lt_or_ge (j+1) (i+1)with h1|h1
  · exact h0.2 j h' h1
  ·
   have:j=i:=by omega
   subst this;exact hr
theorem GoodTo.all (h:GoodTo p r l l.length):(l.all p&&bL3 r l)=true:=by
 rw[Bool.and_eq_true,List.all_eq_true,aQ9];refine⟨fun x hx=>?_,fun i hi=>h.2 i hi hi⟩;obtain⟨i,hi,rfl⟩:=List.mem_iff_getElem.1 hx;exact h.1 i hi hi
end
theorem denilL_u8 (l:List UInt8):CV.denilL (l.map u8)=l.map u8:=bZ (f:=u8) (fun _=>rfl) l
theorem aJ2 (d:Dig):(d.1.map u8).take 32=d.1.map u8:=List.take_of_length_le (by rw[List.length_map,d.2];exact Nat.le_refl _)
theorem mQ {s:aL}(h:(s==[])=false):(0:Int)<(s.length:Int):=by
 cases s with
 |nil=>cases h
 |cons x s=>rw[List.length_cons];omega
theorem aR0 {l:List Dig}:(∀v∈l.map dg,v.cells=32)↔True:=iff_true_intro fun v h=>by obtain⟨d,_,rfl⟩:=List.mem_map.1 h;exact dg_cells d
def kSz (k:Ky):Prop:=k.o.length<2^63∧k.rs.length<2^40∧ ∀w∈k.rs,w.length<2^63
def rSz (r:Rt):Prop:=(r.q.length<2^40∧ ∀q∈r.q,q.r.length<2^63)∧(r.k.length<2^40∧ ∀k∈r.k,kSz k)∧r.x.length<2^40
theorem bV6 (l:List UInt8):(us l).denil=us l:=by simp only[us,CV.denil];rw[bZ (f:=u8) (fun _=>rfl)]
@[simp] theorem cR3 (l:List W32)(i:Nat)(x:W32):CV.agg ((l.map w32).set i (w32 x))=ws (l.set i x):=by rw[←List.map_set];rfl
@[simp] theorem cR4 (l:List UInt8)(i:Nat)(x:UInt8):CV.agg ((l.map u8).set i (u8 x))=us (l.set i x):=by rw[←List.map_set];rfl
@[simp] theorem cV7 (b:List UInt8):wA b 0=wz 64:=rfl
@[simp] theorem cV8 (w:List W32):wB w 0=w:=rfl
def cW5 (s r:St)(j:Nat):List W32:=(s.l.zipWith (fun x y=>x+y) r.l).take j++s.l.drop j
@[simp] theorem cR5 (s r:St):cW5 s r 0=s.l:=rfl
section
variable {b:List UInt8}{j:Nat}(h0:64*j≤b.length)(h1:b.length<64*j+64)
include h0 h1
end
section
variable {b:List UInt8}{j:Nat}(h0:64*j≤b.length)(h1:b.length<64*j+64)
include h0 h1
end
@[simp] theorem cV9 (l:List UInt8):CV.agg (l.map u8)=us l:=rfl
def ob8 (s:St)(i:Nat):UInt8:=UInt8.ofNat ((gw s.l (i/4))>>>(24-8*(i%4))).toNat
def cW6 (s:St)(n:Nat):List UInt8:=itN (fun i l=>l.set i (ob8 s i)) n (uz 32)
@[simp] theorem cR6 (s:St):cW6 s 0=uz 32:=rfl
def cW7 (h:zV):aL:=iV h.1
def jG (d:Dig):aL:=[115,104,97,50,53,54,58]++iV d.1
theorem oB (d:Dig):(jG d).length=71:=by rw[jG,List.length_append,lV,d.2];rfl
def gD (n:Int):aL:=Lib.itoa n
theorem bV7 {n:Int}(h: -9223372036854775808≤n∧n≤9223372036854775807):(gD n).length≤21:=Lib.itoa_length_le n h.1 h.2
theorem bL4 :gD 0=[48]:=by unfold gD Lib.itoa;rw[if_neg (by omega)];simp[Lib.decDigits]
theorem bV8 {n:Int}(h:0≤n):gD n=Lib.decDigits n.natAbs:=by unfold gD Lib.itoa;rw[if_neg (by omega)];congr 1;omega
inductive Av where
 |i (n:Int)
 |l (n:Int)
 |h (x:zV)
 |d (x:Dig)
 |s (w:aL)
def Av.w :Av→aL
 | .i n=>gD n
 | .l n=>gD n
 | .h x=>cW7 x
 | .d x=>jG x
 | .s w=>w
def Av.ok :Av→Prop
 | .i n=> -9223372036854775808≤n∧n≤9223372036854775807
 | .l n=> -9223372036854775808≤n∧n≤9223372036854775807
 |_=>True
def valL (c:UInt8):Nat:=if 48≤c.toNat∧c.toNat≤57 then c.toNat-48 else if 97≤c.toNat∧c.toNat≤102 then c.toNat-87 else 16
def bE1 :List UInt8:=[48,49,50,51,52,53,54,55,56,57,97,98,99,100,101,102]
set_option maxRecDepth 20000 in
theorem oC (c:UInt8):gG bE1 c=if valL c<16 then(valL c:Int)else-1:=by
 have h: ∀n:Fin 256,gG bE1 (UInt8.ofNat n.1)=if valL (UInt8.ofNat n.1)<16 then(valL (UInt8.ofNat n.1):Int)else-1:=by decide
 have:=h ⟨c.toNat,c.toNat_lt⟩;simpa only[UInt8.ofNat_toNat]using this
def hX (s:aL)(i:Nat):UInt8:=s.getD (2*i) 0
def hY (s:aL)(i:Nat):UInt8:=s.getD (2*i+1) 0
def hB (s:aL)(i:Nat):UInt8:=UInt8.ofNat (16*valL (hX s i)+valL (hY s i))
def hOk (s:aL)(i:Nat):Bool:=decide (valL (hX s i)<16)&&decide (valL (hY s i)<16)
theorem cN7 (hx:valL (hX s i)<16)(hy:valL (hY s i)<16):(hB s i).toNat=16*valL (hX s i)+valL (hY s i):=by
 unfold hB;rw[UInt8.toNat_ofNat'];omega
def fK (s:aL)(n:Nat):Option (List UInt8):=if s.length=2*n∧(List.range n).all (hOk s)=true then some ((List.range n).map (hB s))else none
def UhSt (s:aL)(n i:Nat)(l:List UInt8):Prop:=l.length=n∧i≤n∧l.take i=(List.range i).map (hB s)∧ ∀j,j<i→hOk s j=true
variable {l:List UInt8}{n:Nat}
theorem UhSt.init (s:aL)(h:l.length=n):UhSt s n 0 l:=⟨h,Nat.zero_le _,by simp,fun j hj=>by omega⟩
theorem UhSt.next (h:UhSt s n i l)(hi:i<n)(hk:hOk s i=true):UhSt s n (i+1) (l.set i (hB s i)):=by
 obtain⟨h1,h2,h3,h4⟩:=h;refine⟨by simpa using h1,hi,?_,fun j hj=>?_⟩
 · rw[List.take_succ_eq_append_getElem (by rw[List.length_set];omega),List.getElem_set_self,List.take_set_of_le (Nat.le_refl _),h3,List.range_succ,List.map_append];rfl
 ·
  rcases Nat.lt_or_ge j i with h'|h'
  · exact h4 j h'
  ·
   have:j=i:=by omega
   rw[this];exact hk
theorem UhSt.fin (h:UhSt s n n l)(hs:s.length=2*n):fK s n=some l:=by
 obtain⟨h1,h2,h3,h4⟩:=h;unfold fK;rw[if_pos ⟨hs,by rw[List.all_eq_true];intro j hj;exact h4 j (List.mem_range.1 hj)⟩,←h3,List.take_of_length_le (by omega)]
theorem UhSt.bad (_:UhSt s n i l)(hi:i<n)(hk:hOk s i=false):fK s n=none:=by
 unfold fK;rw[if_neg];rintro⟨_,h⟩;have:=List.all_eq_true.1 h i (List.mem_range.2 hi);rw[hk]at this;cases this
theorem aZ2 (h:s.length≠2*n):fK s n=none:=by unfold fK;rw[if_neg fun h'=>h h'.1]
theorem pQ (h:fK s n=some l):l.length=n:=by
 unfold fK at h;split at h
 · cases h;simp
 · cases h
theorem bV9 (l:List UInt8):(l.map u8).all (fun v=>v.cells==1)=true:=by simp[List.all_eq_true,u8,CV.cells]
theorem tX (l:List UInt8):CV.cellsL (l.map u8)=l.length:=pY (fun _=>rfl) l
theorem bL5 (y:UInt8)(h:i<l.length):CV.setAtL i 1 (.c (.int .u8 (y.toNat:Int))) (l.map u8)=some (((l.set i y).map u8).map .c):=xH (f:=u8) (fun _=>rfl) (fun _ _=>rfl) y l i h
def jH (s p:aL):Bool:=decide (p.length≤s.length)&&(s.take p.length==p)
def cT3 (s:aL):Option zV:=match h:fK s 16 with|some l=>some ⟨l,pQ h⟩|none=>none
def shaW :aL:=[115,104,97,50,53,54,58]
def gL (s:aL):Option Dig:=if jH s shaW then match h:fK (s.drop 7) 32 with|some l=>some ⟨l,pQ h⟩|none=>none else none
theorem aE2 (hp:jH s shaW=true)(h:fK (s.drop 7) 32=some l)(hl:l.length=32):gL s=some ⟨l,hl⟩:=by
 unfold gL;rw[if_pos hp];split
 · rename_i l' h';rw[h]at h';cases h';rfl
 · rename_i h';rw[h]at h';cases h'
theorem aE3 (h:jH s shaW=true→fK (s.drop 7) 32=none):gL s=none:=by
 unfold gL;split
 ·
  rename_i hp;split
  · rename_i l' h';rw[h hp]at h';cases h'
  · rfl
 · rfl
theorem aE4 {e:Operand→HV}{K:HV→Prop}{n b:Nat}{d:TyD}:gK {size:=n,bytes:=b,d:=d,z:=zd} [] e K=K (.c zd):=by
 simp only[gK,zd,dg,hfill,hlift_some];rw[cD7]
def wd (l:List aL)(i:Nat):aL:=l.getD i []
def bW0 (l:List aL)(x:Rt):Option Rt:=
 if l.length=3 then match dQ (wd l 2)with|some n=>some {x with q:=x.q++[⟨wd l 1,n⟩]}|none=>none else none
def cT4 (l:List aL)(x:Rt):Option Rt:=
 if l.length<6 then none else match dQ (wd l 1),cT3 (wd l 2),dQ (wd l 4),dQ (wd l 5)with
  |some h,some r,some a,some b=>some {x with k:=x.k++[⟨⟨h,r⟩,wd l 3,l.drop 6,a,b⟩]}
  |_,_,_,_=>none
def cT5 (l:List aL)(x:Rt):Option Rt:=
 if l.length=3 then match gL (wd l 1),dQ (wd l 2)with|some d,some t=>some {x with x:=x.x++[⟨d,t⟩]}|_,_=>none else none
theorem qE (a b:aL): ∀p:List aL,cM (p++[a,b])=if a==b then cM (p++[a])else cM (p++[a])++[b]
 |[]=>by
  simp only[List.nil_append,cM];split
  · rename_i h;rw[eq_of_beq h]
  · rfl
 |[x]=>by
  have ih:=qE a b [];simp only[List.nil_append]at ih;simp only[List.cons_append,List.nil_append];have e1:cM (x::a::[b])=if x==a then cM [a,b]else x::cM [a,b]:=by rw[cM]
  have e2:cM (x::a::[])=if x==a then cM [a]else x::cM [a]:=by rw[cM]
  rw[e1,e2,ih];by_cases h1:(x==a)=true<;>by_cases h2:(a==b)=true<;>simp[h1,h2]
 |x::y::p=>by
  have ih:=qE a b (y::p);simp only[List.cons_append]at ih⊢;have e1:cM (x::y::(p++[a,b]))=if x==y then cM (y::(p++[a,b]))else x::cM (y::(p++[a,b])):=by rw[cM]
  have e2:cM (x::y::(p++[a]))=if x==y then cM (y::(p++[a]))else x::cM (y::(p++[a])):=by rw[cM]
  rw[e1,e2,ih];by_cases h1:(x==y)=true<;>by_cases h2:(a==b)=true<;>simp[h1,h2]
theorem qF {l:List aL}(h0:1≤j)(h:j<l.length):cM (l.take (j+1))=if l[j]==l[j-1]then cM (l.take j)else cM (l.take j)++[l[j]]:=by
 have e1:l.take j=l.take (j-1)++[l[j-1]]:=by
  have:=List.take_succ_eq_append_getElem (show j-1<l.length by omega)
  rwa [show j-1+1=j by omega]at this
 rw[List.take_succ_eq_append_getElem h,e1,List.append_assoc];have:=qE l[j-1] l[j] (l.take (j-1));simp only[List.singleton_append];rw[this];have e2:(l[j-1]==l[j])=(l[j]==l[j-1]):=by rw[Bool.eq_iff_iff];simp only[beq_iff_eq];exact eq_comm
 rw[e2]
theorem vF : ∀{l:List aL},l.length<2→cM l=l
 |[],_=>rfl
 |[_],_=>rfl
 |_::_::_,h=>by simp at h;omega
variable {k:Nat}
theorem aZ3 {l:List aL}(h0:1≤k)(h:k<l.length)(hne:(l[k]==l[k-1])=false)(hd:cM (l.take k)=l.take k):cM (l.take (k+1))=l.take (k+1):=by
 rw[qF h0 h,hne,hd,List.take_succ_eq_append_getElem h];rfl
theorem aZ4 {l:List aL}(h0:1≤k)(h:k<l.length)(he:(l[k]==l[k-1])=true):cM (l.take (k+1))=cM (l.take k):=by
 rw[qF h0 h,he];rfl
theorem bL6 {l:List aL}(h0:1≤k)(h:k<l.length)(hne:(l[k]==l[k-1])=false):cM (l.take (k+1))=cM (l.take k)++[l[k]]:=by
 rw[qF h0 h,hne];rfl
end Go.Pl
namespace Go.Hl
open Go Go.RowKit Go.Sort Go.Proofs
end Go.Hl
namespace Go.Pl
open Go Go.Hl
def rMid (r:Rt):Prop:=(r.q.length≤12∧ ∀q∈r.q,q.r.length≤300)∧(r.k.length≤32∧ ∀k∈r.k,k.o.length≤300∧k.rs.length≤30∧ ∀w∈k.rs,w.length≤300)∧r.x.length≤65
theorem rMid.sz {r:Rt}(h:rMid r):rSz r:=by
 obtain⟨⟨h1,h2⟩,⟨h3,h4⟩,h5⟩:=h;refine⟨⟨by omega,fun q hq=>by have:=h2 q hq;omega⟩,⟨by omega,fun k hk=>?_⟩,by omega⟩;obtain⟨k1,k2,k3⟩:=h4 k hk;exact⟨by omega,by omega,fun w hw=>by have:=k3 w hw;omega⟩
def zY (j:Nat):aL:=([[113,117,111,116,97],[107,101,121],[114,101,118,111,107,101,100]]:List aL).getD j []
def aJ3 (j:Nat)(l:List aL)(x:Rt):Option Rt:=if j=0 then bW0 l x else if j=1 then cT4 l x else cT5 l x
def zZ (j:Nat):List (List aL)→Rt→Option (List (List aL)×Rt)
 |[],x=>some ([],x)
 |l::ls,x=>if wd l 0=zY j then match aJ3 j l x with|some y=>zZ j ls y|none=>none else some (l::ls,x)
def pI :Nat→Nat→List (List aL)→Rt→Option (List (List aL)×Rt)
 |0,_,ls,x=>some (ls,x)
 |n+1,j,ls,x=>match zZ j ls x with|some (ls',y)=>pI n (j+1) ls' y|none=>none
section
variable {l0:List aL}{ls:List (List aL)}{x:Rt}
end
variable {x:Rt}{ls:List (List aL)}{j:Nat}
theorem bW1 {l:List aL}{y:Rt}(h:wd l 0=zY j)(hy:aJ3 j l x=some y):zZ j (l::ls) x=zZ j ls y:=by
 rw[zZ,if_pos h,hy]
theorem bL7 {l:List aL}(h:wd l 0=zY j)(hy:aJ3 j l x=none):zZ j (l::ls) x=none:=by
 rw[zZ,if_pos h,hy]
theorem bL8 {l:List aL}(h:wd l 0≠zY j):zZ j (l::ls) x=some (l::ls,x):=by
 rw[zZ,if_neg h]
variable {n:Nat}
theorem bW2 {l:List aL}{y:Rt}(h:wd l 0=zY j)(hy:aJ3 j l x=some y):pI (n+1) j (l::ls) x=pI (n+1) j ls y:=by grind[pI,bW1]
theorem bL9 {l:List aL}(h:wd l 0=zY j)(hy:aJ3 j l x=none):pI (n+1) j (l::ls) x=none:=by grind[pI,bL7]
theorem bM0 {l:List aL}(h:wd l 0≠zY j):pI (n+1) j (l::ls) x=pI n (j+1) (l::ls) x:=by
 simp only[pI,bL8 h]
theorem bW3 :pI (n+1) j [] x=pI n (j+1) [] x:=by
 simp only[pI,zZ]
def wOk (l:List aL):Prop:=l≠[]∧l.length≤120∧ ∀w∈l,w.length≤32768
variable {l:List aL}
theorem wOk.wd (h:wOk l)(i:Nat):(wd l i).length≤32768:=by
 unfold Pl.wd;rw[List.getD_eq_getElem?_getD];rcases Nat.lt_or_ge i l.length with h'|h'
 · rw[List.getElem?_eq_getElem h'];exact h.2.2 _ (List.getElem_mem h')
 grind
def rRead (m:Nat)(x:Rt):Prop:=x.q.length+x.k.length+x.x.length≤m∧(∀q∈x.q,q.r.length≤32768)∧ ∀k∈x.k,k.o.length≤32768∧k.rs.length≤120∧ ∀w∈k.rs,w.length≤32768
variable {m:Nat}
theorem bM1 {y:Rt}(hl:wOk l)(h:aJ3 j l x=some y)(hx:rRead m x):rRead (m+1) y:=by
 obtain⟨h1,h2,h3⟩:=hx;unfold aJ3 at h;split at h
 ·
  unfold bW0 at h;split at h
  ·
   split at h
   ·
    cases h;refine⟨by grind,fun q hq=>?_,h3⟩;rcases List.mem_append.1 hq with hq|hq
    · grind
    · simp only[List.mem_singleton]at hq;subst hq;exact hl.wd 1
   grind
  grind
 ·
  split at h
  ·
   unfold cT4 at h;split at h
   · cases h
   ·
    split at h
    ·
     cases h;refine⟨by grind,h2,fun k hk=>?_⟩;rcases List.mem_append.1 hk with hk|hk
     · exact h3 k hk
     · simp only[List.mem_singleton]at hk;subst hk;exact⟨hl.wd 3,by show(l.drop 6).length≤120;rw[List.length_drop];have:=hl.2.1;omega,fun w hw=>hl.2.2 w (List.mem_of_mem_drop hw)⟩
    grind
  ·
   unfold cT5 at h;split at h
   ·
    split at h
    · cases h;exact⟨by grind,h2,h3⟩
    grind
   grind
theorem rRead.sz (h:rRead m x)(hm:m≤100000):rSz x:=by
 obtain⟨h1,h2,h3⟩:=h;refine⟨⟨by omega,fun q hq=>by grind⟩,⟨by omega,fun k hk=>?_⟩,by omega⟩;obtain⟨k1,k2,k3⟩:=h3 k hk;exact⟨by omega,by omega,fun w hw=>by grind⟩
def RtSt (ls0:List (List aL))(x0:Rt)(j:Nat)(rest:List (List aL))(x:Rt):Prop:=
 j≤3∧pI 3 0 ls0 x0=pI (3-j) j rest x∧(∀l∈rest,wOk l)∧rest.length≤ls0.length∧rRead (ls0.length-rest.length) x
section
variable {ls0 rest:List (List aL)}{x0 x:Rt}{j:Nat}{l:List aL}
theorem RtSt.init (h: ∀l∈ls0,wOk l)(hx:rRead 0 x0):RtSt ls0 x0 0 ls0 x0:=⟨by omega,rfl,h,Nat.le_refl _,by grind⟩
theorem RtSt.hit {y:Rt}(h:RtSt ls0 x0 j (l::rest) x)(hj:j<3)(hw:wd l 0=zY j)(hy:aJ3 j l x=some y):RtSt ls0 x0 j rest y:=by
 obtain⟨h1,h2,h3,h4,h5⟩:=h;obtain⟨n,hn⟩: ∃n,3-j=n+1:=⟨2-j,by omega⟩;simp only[List.length_cons]at h4 h5;refine⟨h1,by rw[h2,hn,bW2 hw hy],fun l hl=>h3 l (List.mem_cons_of_mem _ hl),by omega,?_⟩;have:=bM1 (h3 l List.mem_cons_self) hy h5;grind
theorem RtSt.fail (h:RtSt ls0 x0 j (l::rest) x)(hj:j<3)(hw:wd l 0=zY j)(hy:aJ3 j l x=none):pI 3 0 ls0 x0=none:=by
 obtain⟨n,hn⟩: ∃n,3-j=n+1:=⟨2-j,by omega⟩;rw[h.2.1,hn,bL9 hw hy]
theorem RtSt.next (h:RtSt ls0 x0 j rest x)(hj:j<3)(hw: ∀l ls,rest=l::ls→wd l 0≠zY j):RtSt ls0 x0 (j+1) rest x:=by
 obtain⟨h1,h2,h3,h4,h5⟩:=h;obtain⟨n,hn⟩: ∃n,3-j=n+1:=⟨2-j,by omega⟩;have hn2:3-(j+1)=n:=by omega
 refine⟨by omega,?_,h3,h4,h5⟩;rw[h2,hn,hn2];cases rest with
 |nil=>exact bW3
 |cons l ls=>exact bM0 (hw l ls rfl)
theorem RtSt.fin (h:RtSt ls0 x0 3 rest x):pI 3 0 ls0 x0=some (rest,x):=by rw[h.2.1];rfl
end
variable {b:aL}
theorem cF4 : ∀l∈mP b,wOk l:=by
 intro l hl;unfold mP at hl;split at hl
 ·
  cases hv:iW b with
  |none=>grind
  |some ls=>
   rw[hv]at hl;simp only[Option.getD_some]at hl;unfold iW at hv;split at hv
   · grind
   ·
    split at hv
    ·
     have key: ∀{rs:List aL} {ls:List (List aL)},rs.mapM unR=some ls→ ∀l∈ls,okL l=true:=by
      intro rs;induction rs with
      |nil=>grind
      |cons r rs ih=>
       intro ls h l hl;rw[List.mapM_cons]at h;cases hr:unR r with
       |none=>grind
       |some a=>
        rw[hr]at h;cases hm:rs.mapM unR with
        |none=>grind
        |some m=>
         rw[hm]at h;cases h;rcases List.mem_cons.1 hl with rfl|hl
         ·
          unfold unR at hr;split at hr
          ·
           split at hr
           · rename_i hk;cases hr;exact hk
           · cases hr
          · cases hr
         · exact ih hm l hl
     exact(jS l).1 (key hv l hl)
    grind
 grind
theorem bW4 :(mP b).length≤1000:=by
 unfold mP;split
 · grind[kR,iW]
 · simp
theorem rZ :vS=1099511627776:=rfl
theorem yE : ∀(a b:aL) (n m:Nat),fJ a n=some m→fJ (a++b) n=fJ b m
 |[],b,n,m,h=>by simp only[fJ,Option.some.injEq]at h;subst h;rfl
 |c::a,b,n,m,h=>by
  simp only[List.cons_append,fJ]at h⊢;split at h
  · rename_i hc;rw[if_pos hc];exact yE a b _ _ h
  · cases h
theorem bE2 {k:Nat}(h:k<10):qC (UInt8.ofNat (48+k))=true∧(UInt8.ofNat (48+k)).toNat-48=k:=by
 have e:(UInt8.ofNat (48+k)).toNat=48+k:=by simp;omega
 rw[qC,e];exact⟨by simp;omega,by omega⟩
theorem aZ5 (u:Nat):fJ (Lib.decDigits u) 0=some u:=by
 induction u using Nat.strongRecOn with
 |ind u ih=>
  rw[Lib.decDigits];split
  · rename_i h;obtain⟨h1,h2⟩:=bE2 h;simp only[fJ,h1,if_true,h2];simp
  · rw[yE _ _ 0 (u/10) (ih _ (by omega))];obtain⟨h1,h2⟩:=bE2 (k:=u%10) (by omega);simp only[fJ,h1,if_true,h2];congr 1;omega
theorem bE3 : ∀(k u:Nat),u<10^(k+1)→(Lib.decDigits u).length≤k+1
 |0,u,h=>by rw[Lib.decDigits,dif_pos (by omega)];simp
 |k+1,u,h=>by
  rw[Lib.decDigits];split
  · simp
  · have:=bE3 k (u/10) (by rw[Nat.pow_succ]at h;omega);simp only[List.length_append,List.length_singleton];omega
theorem bW5 {u:Nat}(h:1≤u): ∃c l,Lib.decDigits u=c::l∧c≠48:=by
 induction u using Nat.strongRecOn with
 |ind u ih=>
  rw[Lib.decDigits];split
  · rename_i hu;refine⟨_,_,rfl,fun hc=>?_⟩;have:=congrArg UInt8.toNat hc;simp at this;omega
  · obtain⟨c,l,h1,h2⟩:=ih (u/10) (by omega) (by omega);exact⟨c,l++[UInt8.ofNat (48+u%10)],by rw[h1];rfl,h2⟩
theorem tY {n:Int}(h0:0≤n)(h1:n≤1099511627776):dQ (gD n)=some n:=by
 rw[bV8 h0];have hd:=aZ5 n.natAbs;have hl:=bE3 12 n.natAbs (by omega);have hb:jJ (Lib.decDigits n.natAbs)=false:=by
  unfold jJ;by_cases hz:n.natAbs=0
  · rw[hz,Lib.decDigits_one (by omega)];simp
  ·
   obtain⟨c,l,h2,h3⟩:=bW5 (u:=n.natAbs) (by omega);rw[h2]at hl⊢;have e:((c::l).getD 0 0==(48:UInt8))=false:=by simpa using h3
   rw[e,Bool.and_false,Bool.or_false,Bool.or_eq_false_iff];exact⟨by simp,decide_eq_false (by omega)⟩
 rw[bE0 hb hd (by omega)];congr 1;omega
theorem yF : ∀{k:Nat},k<16→valL (mX k)=k:=by
 have: ∀k:Fin 16,valL (mX k.1)=k.1:=by decide
 intro k h;exact this ⟨k,h⟩
theorem aE5 : ∀(bs:List UInt8) (i:Nat),(iV bs).getD (2*i) 0=(bs[i]?.map fun c=>mX (c.toNat/16)).getD 0∧(iV bs).getD (2*i+1) 0=(bs[i]?.map fun c=>mX (c.toNat%16)).getD 0
 |[],i=>by simp[iV]
 |c::bs,0=>by simp[iV,bU2]
 |c::bs,i+1=>by
  have ih:=aE5 bs i;have e:iV (c::bs)=mX (c.toNat/16)::mX (c.toNat%16)::iV bs:=rfl;rw[e,show 2*(i+1)=2*i+1+1 from by omega];simpa using ih
theorem aZ6 (bs:List UInt8):fK (iV bs) bs.length=some bs:=by
 have key: ∀i,(h:i<bs.length)→hX (iV bs) i=mX (bs[i].toNat/16)∧hY (iV bs) i=mX (bs[i].toNat%16):=fun i h=>by
  obtain⟨h1,h2⟩:=aE5 bs i;rw[List.getElem?_eq_getElem h]at h1 h2;exact⟨h1,h2⟩
 have v: ∀i,(h:i<bs.length)→valL (hX (iV bs) i)=bs[i].toNat/16∧valL (hY (iV bs) i)=bs[i].toNat%16:=fun i h=>by
  have:=bs[i].toNat_lt;rw[(key i h).1,(key i h).2];exact⟨yF (by omega),yF (by omega)⟩
 have hall:(List.range bs.length).all (hOk (iV bs))=true:=by
  rw[List.all_eq_true];intro i hi;have hi:=List.mem_range.1 hi;obtain⟨a,b⟩:=v i hi;have:=bs[i].toNat_lt;unfold hOk;rw[a,b];simp;omega
 unfold fK;rw[if_pos ⟨lV bs,hall⟩];congr 1;refine List.ext_getElem (by simp) fun i h1 h2=>?_;obtain⟨a,b⟩:=v i h2;simp only[List.getElem_map,List.getElem_range,hB,a,b];have:=bs[i].toNat_lt;refine UInt8.toNat_inj.1 ?_;rw[UInt8.toNat_ofNat'];omega
theorem sB (d:Dig):gL (jG d)=some d:=by
 obtain⟨l,hl⟩:=d;have:=aZ6 l;rw[hl]at this;refine aE2 (l:=l) ?_ ?_ hl
 · simp[jH,jG,shaW,lV]
 · simpa[jG]using this
theorem cF5 (h:nY ls=0):kR (rV ls)=0∧mP (rV ls)=ls:=by
 rw[bD5 h];unfold nY at h;split at h
 · cases h
 ·
  rename_i h1;split at h
  · rename_i l hl;have:=List.find?_some hl;simp only[Bool.not_eq_true']at this;exact absurd h (cE8 this)
  ·
   rename_i hn;split at h
   · cases h
   ·
    rename_i h2;have hok: ∀l∈ls,okL l=true:=fun l hl=>by
     have:=List.find?_eq_none.1 hn l hl;simpa using this
    have hv:=bL0 hok;have hE:kR (jR ls)=0:=by unfold kR;rw[if_neg h2,hv];simp only;rw[if_neg h1]
    exact⟨hE,by unfold mP;rw[if_pos hE,hv];rfl⟩
def sC (r:Pr):Bool:=eR r.a&&((aY6 r.b).isSome&&((aY6 r.c).isSome&&(inB r.g 0 vS&&dU r.t)))
def mR :List Pr→Bool
 |[]=>true
 |r::l=>!(l.map Pr.a).contains r.a&&mR l
def bW6 (p:Po):Bool:=eR p.n&&(inB p.v 1 vS&&(decide (p.r.length≤16)&&(p.r.all sC&&mR p.r)))
theorem vG (l:List Pr)(r:Pr):mR (l++[r])=(mR l&&!(l.map Pr.a).contains r.a):=by
 induction l with
 |nil=>simp[mR]
 |cons x l ih=>
  simp only[List.cons_append,mR,ih,List.map_append,List.map_cons,List.map_nil,List.contains_append,List.contains_cons,List.contains_nil,Bool.or_false];rw[show(x.a==r.a)=(r.a==x.a)from Bool.beq_comm];grind
def bM2 :aL:=[114,101,108,101,97,115,101,100]
def bW7 :aL:=[99,104,97,105,110,101,100]
def bM3 :aL:=[97,112,112,114,111,118,101,100]
def bW8 :aL:=[114,101,98,117,105,108,116]
def cF6 :aL:=[108,105,115,116,101,100]
def cN8 :aL:=[99,108,101,97,110]
def cN9 :aL:=[102,114,101,115,104]
def bW9 :aL:=[115,101,116,116,108,101,100]
def cW8 :aL:=[97,108,108]
def cW9 :aL:=[97,110,121]
def bX0 :aL:=[97,116,108,101,97,115,116]
def cO0 :aL:=[101,110,100]
def cT6 :aL:=[114,117,108,101]
def cO1 (w:List aL):Option Rq:=
 if w.length=2∧wd w 0=bM2 then(dQ (wd w 1)).map (⟨1,·,0,[]⟩)
 else if w.length=2∧wd w 0=bW7 then some ⟨2,0,0,wd w 1⟩
 else if w.length=2∧wd w 0=bM3 then(dQ (wd w 1)).map (⟨3,·,0,[]⟩)
 else if w.length=3∧wd w 0=bW8 then match dQ (wd w 1),dQ (wd w 2)with|some n,some m=>some ⟨4,n,m,[]⟩|_,_=>none
 else if w.length=2∧wd w 0=cF6 then(dQ (wd w 1)).map (⟨5,·,0,[]⟩)
 else if w.length=2∧wd w 0=cN8 then(dQ (wd w 1)).map (⟨6,·,0,[]⟩)
 else if w.length=2∧wd w 0=cN9 then(dQ (wd w 1)).map (⟨7,·,0,[]⟩)
 else if w.length=1∧wd w 0=bW9 then some ⟨8,0,0,[]⟩else none
def cO2 (w:List aL):Option Nd:=
 if w.length=1∧wd w 0=cW8 then some ⟨2,0,0,rq0⟩else if w.length=1∧wd w 0=cW9 then some ⟨3,0,0,rq0⟩
 else if w.length=2∧wd w 0=bX0 then(dQ (wd w 1)).map (⟨4,·,0,rq0⟩)else none
def bX1 (w:List aL):Bool:=w.length==1&&wd w 0==cO0
mutual
def rdN :Nat→List (List aL)→Option (List Nd)×List (List aL)
 |0,ls=>(none,ls)
 |_+1,[]=>(none,[])
 |f+1,w::r=>match cO1 w with
  |some q=>(some [⟨1,0,0,q⟩],r)
  |none=>match cO2 w with
   |none=>(none,w::r)
   |some n=>match rdK f r with
    |(none,r')=>(none,r')
    |(some (ts,c),r')=>(some ({n with c:=c}::ts),r')
def rdK :Nat→List (List aL)→Option (List Nd×Int)×List (List aL)
 |0,ls=>(none,ls)
 |f+1,ls=>if bX1 (ls.headD [])then(some ([],0),ls.tail)else match rdN f ls with
  |(none,r)=>(none,r)
  |(some t,r)=>match rdK f r with
   |(none,r')=>(none,r')
   |(some (ts,c),r')=>(some (t++ts,c+1),r')
end
def rdT (ls:List (List aL)):Option (List Nd)×List (List aL):=rdN (2*ls.length+2) ls
def rdR (ls:List (List aL)):Option Pr×List (List aL):=match ls with
 |[]=>(none,[])
 |w::r=>if w.length=5∧wd w 0=cT6 then match dQ (wd w 4)with
   |none=>(none,w::r)
   |some g=>match rdT r with|(none,r')=>(none,r')|(some t,r')=>(some ⟨wd w 1,wd w 2,wd w 3,g,t⟩,r')
  else(none,w::r)
def cF7 :Nat→List (List aL)→List Pr→Option (List Pr)×List (List aL)
 |0,ls,_=>(none,ls)
 |f+1,ls,a=>if ls=[]then(some a,[])else match rdR ls with
  |(none,r)=>(none,r)
  |(some x,r)=>cF7 f r (a++[x])
theorem vH : ∀(t x r:List Nd) (m:Nat),skip m t=some r→skip m (t++x)=some (r++x)
 |t,x,r,0,h=>by grind[fP]
 |[],x,r,m+1,h=>by cases h
 |n::t,x,r,m+1,h=>by
  have h':skip (m+n.c.toNat) t=some r:=h;exact vH t x r _ h'
def wDer :aL:=[100,101,114,105,118,97,116,105,111,110]
def wOrg :aL:=[111,114,105,103,105,110]
def wDoc :aL:=[100,111,99]
def sD :aL:=[110,101,101,100]
def aZ7 :aL:=[97,108,108]
def bM4 :aL:=[97,110,121]
def bX2 :aL:=[97,116,108,101,97,115,116]
def bX3 :aL:=[97,100,109,105,116]
def wordK (k:Int):aL:=if k=1 then sD else if k=2 then aZ7 else if k=3 then bM4 else if k=4 then bX2 else if k=5 then bX3 else []
def lX (w:aL):Option Int:=if w=sD then some 1 else if w=aZ7 then some 2 else if w=bM4 then some 3 else if w=bX2 then some 4 else if w=bX3 then some 5 else none
theorem yG {w:aL}{k:Int}:lX w=some k↔1≤k∧k≤5∧wordK k=w:=by
 unfold lX wordK;constructor
 · intro h;(repeat' split at h);all_goals first|(cases h;done)|(cases h;subst_vars;decide)
 ·
  rintro⟨h1,h2,h3⟩;obtain h|h|h|h|h:k=1∨k=2∨k=3∨k=4∨k=5:=by omega
  all_goals subst h;subst h3;decide
def iY (n:Int):Bool:=inB n 0 1099511627776
theorem fA (n:Int):iY n=true↔0≤n∧n≤1099511627776:=by simp[iY,inB]
def eW (x:Ln):Bool:=inB x.k 1 5&&iY x.n&&(if x.k=1 then x.f==[]else x.f.all iY&&x.d==[])
def firstL (x:Ln):List aL:=wordK x.k::gD x.n::x.f.map gD
def lY (d:Dig):List aL:=[wDoc,jG d]
def fB (x:Ln):List (List aL):=firstL x::x.d.map lY
def kW (d:Dv):List (List aL):=[[wDer,d.q.n,d.q.i,jG d.q.a,gD d.t,jG d.p,gD d.r],[wOrg,jG d.o.v,d.o.l,d.o.r]]
def iA (d:Dv):List (List aL):=kW d++d.l.flatMap fB
def kX (d:Dv):Bool:=iY d.t&&iY d.r&&d.l.all eW
def dvE (d:Dv):Int:=if kX d then nY (iA d)else 1
def dvO (d:Dv):aL:=if kX d then rV (iA d)else []
variable {d:Dv}
theorem aZ8 (h:dvE d=0):kX d=true∧nY (iA d)=0∧dvO d=rV (iA d):=by
 unfold dvE at h;unfold dvO;split at h
 · rename_i hf;rw[if_pos hf];exact⟨hf,h,rfl⟩
 · cases h
def og0 :Og:=⟨zdg,[],[]⟩
def qs0 :Qs:=⟨[],[],zdg⟩
def dv0 :Dv:=⟨qs0,0,zdg,0,og0,[]⟩
def fG (l:List aL):Option (List Int):=l.mapM dQ
def fM (w:List aL):Option Ln:=
 match fG (w.drop 1)with
 |some (n::f)=>(lX (wd w 0)).bind fun k=>if k=1∧f≠[]then none else some ⟨k,n,[],f⟩
 |_=>none
def vU (x:Ln)(d:Dig):Ln:={x with d:=x.d++[d]}
def bM5 (ls:List Ln)(w:List aL):Option (List Ln):=
 match ls.getLast? with
 |some x=>if x.k=1∧w.length=2 then(gL (wd w 1)).map fun d=>ls.dropLast++[vU x d]else none
 |none=>none
def eV (ls:List Ln)(w:List aL):Option (List Ln):=if wd w 0=wDoc then bM5 ls w else(fM w).map fun x=>ls++[x]
def wd' (ls:List (List aL))(i:Nat):List aL:=ls.getD i []
def iF (ls:List (List aL)):Option Dv:=
 if ls.length<2∨(wd' ls 0).length≠7∨wd (wd' ls 0) 0≠wDer∨(wd' ls 1).length≠4∨wd (wd' ls 1) 0≠wOrg then none
 else match gL (wd (wd' ls 0) 3),gL (wd (wd' ls 0) 5),gL (wd (wd' ls 1) 1),dQ (wd (wd' ls 0) 4),dQ (wd (wd' ls 0) 6)with
  |some a,some p,some v,some t,some r=>some ⟨⟨wd (wd' ls 0) 1,wd (wd' ls 0) 2,a⟩,t,p,r,⟨v,wd (wd' ls 1) 2,wd (wd' ls 1) 3⟩,[]⟩
  |_,_,_,_,_=>none
def gT (ls:List (List aL)):Option Dv:=(iF ls).bind fun d=>((ls.drop 2).foldlM eV []).map fun l=>{d with l:=l}
def tZ (b:aL):Option Dv:=if kR b=0 then(gT (mP b)).bind fun d=>if dvE d=0∧dvO d=b then some d else none else none
def ddE (b:aL):Int:=if kR b≠0 then kR b else if(tZ b).isSome then 0 else 2
def ddO (b:aL):Dv:=(tZ b).getD dv0
theorem aE6 : ∀{l:List Int},l.all iY=true→fG (l.map gD)=some l
 |[],_=>rfl
 |n::l,h=>by
  simp only[List.all_cons,Bool.and_eq_true]at h;have h1:=(fA n).1 h.1;have h2:=aE6 h.2;unfold fG at h2⊢;rw[List.map_cons,List.mapM_cons,tY h1.1 h1.2,h2];rfl
theorem aR1 {x:Ln}(h:eW x=true):fM (firstL x)=some {x with d:=[]}∧wd (firstL x) 0≠wDoc:=by
 simp only[eW,Bool.and_eq_true,inB,decide_eq_true_eq]at h;obtain⟨⟨⟨h1,h2⟩,h3⟩,h4⟩:=h;have hk:lX (wordK x.k)=some x.k:=yG.2 ⟨h1,h2,rfl⟩;have hn:((x.n::x.f).all iY)=true:=by
  rw[List.all_cons,h3,Bool.true_and];split at h4
  · rw[beq_iff_eq]at h4;rw[h4];rfl
  · simp only[Bool.and_eq_true]at h4;exact h4.1
 have hm:=aE6 hn;constructor
 · have e:(firstL x).drop 1=(x.n::x.f).map gD:=rfl;unfold fM;rw[e,hm];show(lX (wordK x.k)).bind _=_;rw[hk];simp only[Option.bind_some];rw[if_neg ?_];rintro⟨g1,g2⟩;rw[if_pos g1,beq_iff_eq]at h4;exact g2 h4
 ·
  show wordK x.k≠wDoc;obtain h|h|h|h|h:x.k=1∨x.k=2∨x.k=3∨x.k=4∨x.k=5:=by omega
  all_goals rw[h];decide
theorem aE7 (ls:List Ln): ∀(ds:List Dig) (x:Ln),x.k=1→(ds.map lY).foldlM eV (ls++[x])=some (ls++[{x with d:=x.d++ds}])
 |[],x,_=>by simp
 |d::ds,x,hk=>by
  have e:eV (ls++[x]) (lY d)=some (ls++[vU x d]):=by
   unfold eV;rw[if_pos (show wd (lY d) 0=wDoc from rfl)];unfold bM5;rw[List.getLast?_concat];simp only[lY,List.length_cons,List.length_nil,hk];rw[if_pos (by simp)];show(gL (jG d)).map _=_;rw[sB,List.dropLast_concat];rfl
  rw[List.map_cons,List.foldlM_cons,e];show(ds.map lY).foldlM eV (ls++[vU x d])=_;rw[aE7 ls ds (vU x d) hk];simp[vU]
theorem aR2 (ls:List Ln){x:Ln}(h:eW x=true):(fB x).foldlM eV ls=some (ls++[x]):=by
 obtain⟨h1,h2⟩:=aR1 h;have e:eV ls (firstL x)=some (ls++[{x with d:=[]}]):=by unfold eV;rw[if_neg h2,h1];rfl
 rw[fB,List.foldlM_cons,e];show(x.d.map lY).foldlM eV (ls++[{x with d:=[]}])=_;by_cases hk:x.k=1
 · rw[aE7 ls x.d {x with d:=[]} hk];simp
 ·
  have hd:x.d=[]:=by
   simp only[eW,Bool.and_eq_true]at h;have h4:=h.2;rw[if_neg hk]at h4;simp only[Bool.and_eq_true,beq_iff_eq]at h4;exact h4.2
  rw[hd];cases x;subst hd;rfl
theorem aE8 : ∀{l:List Ln} (ls:List Ln),l.all eW=true→(l.flatMap fB).foldlM eV ls=some (ls++l)
 |[],ls,_=>by simp
 |x::l,ls,h=>by
  simp only[List.all_cons,Bool.and_eq_true]at h;rw[List.flatMap_cons,List.foldlM_append,aR2 ls h.1];show(l.flatMap fB).foldlM eV (ls++[x])=_;rw[aE8 _ h.2];simp
theorem bX4 (h:kX d=true):gT (iA d)=some d:=by
 simp only[kX,Bool.and_eq_true]at h;have h1:=(fA _).1 h.1.1;have h2:=(fA _).1 h.1.2;have hh:iF (iA d)=some {d with l:=[]}:=by
  unfold iF;have e0:wd' (iA d) 0=[wDer,d.q.n,d.q.i,jG d.q.a,gD d.t,jG d.p,gD d.r]:=rfl;have e1:wd' (iA d) 1=[wOrg,jG d.o.v,d.o.l,d.o.r]:=rfl;rw[e0,e1,if_neg]
  ·
   show(match gL (jG d.q.a),gL (jG d.p),gL (jG d.o.v),dQ (gD d.t),dQ (gD d.r)with
    |some a,some p,some v,some t,some r=>some (⟨⟨d.q.n,d.q.i,a⟩,t,p,r,⟨v,d.o.l,d.o.r⟩,[]⟩:Dv)
    |_,_,_,_,_=>none)=_
   rw[sB,sB,sB,tY h1.1 h1.2,tY h2.1 h2.2]
  · simp only[iA,kW,List.length_append,List.length_cons,List.length_nil,wd,List.getD_cons_zero,ne_eq,not_true_eq_false,or_false];omega
 unfold gT;rw[hh,Option.bind_some];have e2:(iA d).drop 2=d.l.flatMap fB:=rfl;rw[e2,aE8 [] h.2];simp
theorem yH (h:dvE d=0)(hb:dvO d=b):tZ b=some d∧ddE b=0∧ddO b=d:=by
 obtain⟨h1,h2,h3⟩:=aZ8 h;obtain⟨e1,e2⟩:=cF5 h2;have hb2:b=rV (iA d):=by rw[←hb,h3]
 have e:tZ b=some d:=by
  unfold tZ;rw[hb2,if_pos e1,e2,bX4 h1,Option.bind_some,if_pos ⟨h,h3⟩]
 exact⟨e,by rw[ddE,e,hb2,e1];rfl,by rw[ddO,e];rfl⟩
def RunD (f:List Ln→List aL→Option (List Ln))(ws:List (List aL))(i:Nat)(st:List Ln):Prop:=(ws.take i).foldlM f []=some st
variable {ws:List (List aL)}{f:List Ln→List aL→Option (List Ln)}
theorem RunD.init :RunD f ws 0 []:=rfl
variable {st:List Ln}{i:Nat}
theorem RunD.next {st':List Ln}(h:RunD f ws i st)(hi:i<ws.length)(hs:f st ws[i]=some st'):RunD f ws (i+1) st':=by
 unfold RunD at h⊢;rw[List.take_succ_eq_append_getElem hi,List.foldlM_append,h];show [ws[i]].foldlM f st=_;rw[List.foldlM_cons,hs];rfl
theorem RunD.bad (h:RunD f ws i st)(hi:i<ws.length)(hs:f st ws[i]=none):ws.foldlM f []=none:=by
 unfold RunD at h;rw[←List.take_append_drop i ws,List.foldlM_append,h,List.drop_eq_getElem_cons hi];show(ws[i]::ws.drop (i+1)).foldlM f st=_;rw[List.foldlM_cons,hs];rfl
theorem RunD.fin (h:RunD f ws ws.length st):ws.foldlM f []=some st:=by
 unfold RunD at h
 rwa [List.take_length]at h
end Go.Pl
namespace Go.Proofs.YthedbjfipmkpiaaGreatDoor
open Go Go.Hl Go.Pl Go.RowKit Go.Shelf
set_option maxRecDepth 100000
def cF8 :Go.Shelf.Ren:=⟨fun|173=>81|246=>110|283=>135|284=>136|285=>137|286=>138|129=>121|317=>161|318=>162|319=>163|320=>164|337=>174|338=>175|n=>n,fun|2=>2|3=>3|9=>9|4=>4|171=>180|0=>0|53=>135|37=>52|5=>5|173=>182|212=>199|51=>168|20=>20|213=>200|46=>72|232=>43|233=>213|n=>n,fun|17=>1|18=>4|19=>5|n=>n⟩
theorem cO3 :Go.Proofs.LaysM.n173 Tryz.prog cF8:={
  mixed:=by kernel_rfl
  f129:=Tryz.func121.trans (congrArg some (by kernel_rfl))
  f173:=Tryz.func81.trans (congrArg some (by kernel_rfl))
  f246:=Tryz.func110.trans (congrArg some (by kernel_rfl))
  f283:=Tryz.func135.trans (congrArg some (by kernel_rfl))
  f284:=Tryz.func136.trans (congrArg some (by kernel_rfl))
  f285:=Tryz.func137.trans (congrArg some (by kernel_rfl))
  f286:=Tryz.func138.trans (congrArg some (by kernel_rfl))
  f317:=Tryz.func161.trans (congrArg some (by kernel_rfl))
  f318:=Tryz.func162.trans (congrArg some (by kernel_rfl))
  f319:=Tryz.func163.trans (congrArg some (by kernel_rfl))
  f320:=Tryz.func164.trans (congrArg some (by kernel_rfl))
  f337:=Tryz.func174.trans (congrArg some (by kernel_rfl))
  f338:=Tryz.func175.trans (congrArg some (by kernel_rfl))
  t0:=Tryz.underlying0
  a0:=Tryz.isAgg0
  z0:=Tryz.sizeOf0
  v0:=Tryz.zeroValue0
  t2:=Tryz.underlying2
  a2:=Tryz.isAgg2
  z2:=Tryz.sizeOf2
  v2:=Tryz.zeroValue2
  t3:=Tryz.underlying3
  a3:=Tryz.isAgg3
  z3:=Tryz.sizeOf3
  v3:=Tryz.zeroValue3
  t4:=Tryz.underlying4
  a4:=Tryz.isAgg4
  z4:=Tryz.sizeOf4
  v4:=Tryz.zeroValue4
  t5:=Tryz.underlying5
  a5:=Tryz.isAgg5
  z5:=Tryz.sizeOf5
  v5:=Tryz.zeroValue5
  t9:=Tryz.underlying9
  a9:=Tryz.isAgg9
  z9:=Tryz.sizeOf9
  v9:=Tryz.zeroValue9
  t20:=Tryz.underlying20
  a20:=Tryz.isAgg20
  z20:=Tryz.sizeOf20
  v20:=Tryz.zeroValue20
  t37:=Tryz.underlying52
  a37:=Tryz.isAgg52
  z37:=Tryz.sizeOf52
  v37:=Tryz.zeroValue52
  t46:=Tryz.underlying72
  a46:=Tryz.isAgg72
  z46:=Tryz.sizeOf72
  v46:=Tryz.zeroValue72
  t51:=Tryz.underlying168
  a51:=Tryz.isAgg168
  z51:=Tryz.sizeOf168
  v51:=Tryz.zeroValue168
  t53:=Tryz.underlying135
  a53:=Tryz.isAgg135
  z53:=Tryz.sizeOf135
  v53:=Tryz.zeroValue135
  t171:=Tryz.underlying180
  a171:=Tryz.isAgg180
  z171:=Tryz.sizeOf180
  v171:=Tryz.zeroValue180
  t173:=Tryz.underlying182
  a173:=Tryz.isAgg182
  z173:=Tryz.sizeOf182
  v173:=Tryz.zeroValue182
  t212:=Tryz.underlying199
  a212:=Tryz.isAgg199
  z212:=Tryz.sizeOf199
  v212:=Tryz.zeroValue199
  t213:=Tryz.underlying200
  a213:=Tryz.isAgg200
  z213:=Tryz.sizeOf200
  t232:=Tryz.underlying43
  a232:=Tryz.isAgg43
  z232:=Tryz.sizeOf43
  v232:=Tryz.zeroValue43
  t233:=Tryz.underlying213
  a233:=Tryz.isAgg213
  z233:=Tryz.sizeOf213
  v233:=Tryz.zeroValue213
  g17:=by kernel_rfl
  g18:=by kernel_rfl
  g19:=by kernel_rfl
  i0:=by kernel_rfl
  i2:=by kernel_rfl
  i3:=by kernel_rfl
  i4:=by kernel_rfl
  i5:=by kernel_rfl
  i9:=by kernel_rfl
  i20:=by kernel_rfl
  i37:=by kernel_rfl
  i46:=by kernel_rfl
  i51:=by kernel_rfl
  i53:=by kernel_rfl
  i171:=by kernel_rfl
  i173:=by kernel_rfl
  i212:=by kernel_rfl
  i232:=by kernel_rfl
  i233:=by kernel_rfl
  m17:=by kernel_rfl
  m18:=by kernel_rfl
  m19:=by kernel_rfl}
theorem aJ4 :Tryz.prog.globalNamed "internal/strconv.uint64pow10" =some 1:=by kernel_rfl
def tabs :nU:=[(1,Lib.pow10Tab.map fun z=>Value.int .u64 z)]
theorem bM6 (n:Int)(h: -9223372036854775808≤n∧n≤9223372036854775807):nV Tryz.prog 81 tabs [.int .i64 n,.int .i64 10] (fun v=>v= .str (gD n)):=
  aY2 (by kernel_rfl) aJ4 (List.mem_cons_self) (fun w hw=>Any.strconv_FormatInt_10 cO3 n h.1 h.2 w hw)
end Go.Proofs.YthedbjfipmkpiaaGreatDoor
namespace Go.Proofs.YthedbjfipmkpiaaGreatDoor
open Go Go.Hl Go.Pl
set_option maxRecDepth 10000
set_option maxHeartbeats 16000000
theorem bX5 (n:Int)(hn: -9223372036854775808≤n∧n≤9223372036854775807):nV Tryz.prog 46 tabs [.int .i64 n] (fun v=>v= .str (gD n)):=by
 refine bI (args:=[.c (.int .i64 n)]) Tryz.func46 rfl (by kernel_rfl) (gF tabs [.int .i64 n]) (Nat.le_of_ble_eq_true rfl) ?_;refine R0 ?_;refine aC fun K hK=>Rg ?_;refine S0 ?_;refine HS rfl rfl fun K' hK'=>T5 ?_;refine mN (args:=[_,_]) 0 (bM6 n hn) (gR _ 0) (by simp) ⟨rfl,rfl,rfl,rfl⟩ ?_;rintro u rfl;refine AX (hK' _ _ ?_);clear hK' K';refine S0 ?_;refine T2 (hK _ _ _ ?_);clear hK K;refine aH (RT Tryz.results46 ?_);exact pZ [] (.str _) rfl (gR _ 0) (by simp) rfl
end Go.Proofs.YthedbjfipmkpiaaGreatDoor
namespace Go.Proofs.YthedbjfipmkpiaaGreatDoor
open Go Go.Hl Go.Pl Go.RowKit Go.Shelf
set_option maxRecDepth 100000
def bE4 :Go.Shelf.Ren:=⟨fun|169=>109|n=>n,fun|70=>154|9=>9|0=>0|72=>156|37=>52|127=>179|3=>3|5=>5|n=>n,fun|n=>n⟩
theorem bs0 :Go.Proofs.Lays.n169 Tryz.prog bE4:={
  mixed:=by kernel_rfl
  f169:=Tryz.func109.trans (congrArg some (by kernel_rfl))
  t0:=Tryz.underlying0
  a0:=Tryz.isAgg0
  z0:=Tryz.sizeOf0
  v0:=Tryz.zeroValue0
  t3:=Tryz.underlying3
  a3:=Tryz.isAgg3
  z3:=Tryz.sizeOf3
  v3:=Tryz.zeroValue3
  t9:=Tryz.underlying9
  a9:=Tryz.isAgg9
  z9:=Tryz.sizeOf9
  v9:=Tryz.zeroValue9
  t37:=Tryz.underlying52
  a37:=Tryz.isAgg52
  z37:=Tryz.sizeOf52
  v37:=Tryz.zeroValue52
  t70:=Tryz.underlying154
  a70:=Tryz.isAgg154
  z70:=Tryz.sizeOf154
  v70:=Tryz.zeroValue154
  t72:=Tryz.underlying156
  a72:=Tryz.isAgg156
  z72:=Tryz.sizeOf156
  v72:=Tryz.zeroValue156
  t127:=Tryz.underlying179
  a127:=Tryz.isAgg179
  z127:=Tryz.sizeOf179
  v127:=Tryz.zeroValue179}
theorem bsx0 :Builder.Extra Tryz.prog bE4:={
  sizeBuilder:=by kernel_rfl
  liesBuilder:=by kernel_rfl
  t5:=Tryz.underlying5
  a5:=Tryz.isAgg5
  z5:=Tryz.sizeOf5
  v5:=Tryz.zeroValue5
  infoByte:=by kernel_rfl
  cellsByte:=by kernel_rfl
  sizeByte:=by kernel_rfl
  neB5:=by decide}
set_option maxHeartbeats 1000000 in
theorem cF9 (b:Nat)(w:World)(h0:w.cell? ⟨b,0,none⟩=some (.pointer (some ⟨b,0,none⟩))):
    Calls Tryz.prog 134 #[.pointer (some ⟨b,0,none⟩)] w fun e w'=>e= .returned (.tuple #[])∧w'=w:=by
  obtain⟨j,hj,_⟩:=Option.map_eq_some_iff.1 bsx0.sizeBuilder
  go_enter Tryz.func134,Tryz.ntmps134
  go_wp2
  rw[Lib.run_neq_ptr_same w _ Tryz.underlying154 hj]
  go_wp2
  go_end0
  exact⟨rfl,rfl⟩
set_option maxHeartbeats 1000000 in
theorem bX6 (b:Nat)(w:World)(h0:w.cell? ⟨b,0,none⟩=some (.pointer none))(hsh:w.shape? b=some (156,2))(hfz:w.frozen? ⟨b,0,none⟩=false):
    Calls Tryz.prog 134 #[.pointer (some ⟨b,0,none⟩)] w fun e w'=>e= .returned (.tuple #[])∧w'=w.setCell ⟨b,0,none⟩ (.pointer (some ⟨b,0,none⟩)):=by
  obtain⟨j,hj,hjs⟩:=Option.map_eq_some_iff.1 bsx0.sizeBuilder
  go_enter Tryz.func134,Tryz.ntmps134
  go_wp2
  rw[Lib.run_to_unsafe w ⟨b,0,none⟩ Tryz.underlying154 Tryz.underlying196 hj (by rw[hjs];decide) hsh (Nat.zero_lt_succ 1)];simp only[Result.andThen];rw[Oper.upon_value]
  go_wp2
  rw[run_callFunc_extern Tryz.func160 (by kernel_rfl) (by kernel_rfl) (by kernel_rfl) (e:=Extern.AbiNoEscape.same) (by kernel_rfl)];rw[Lib.run_noEscape];simp only[Result.andThen];rw[Oper.upon_value]
  go_wp2
  rw[Lib.run_from_unsafe w ⟨b,0,none⟩ Tryz.underlying196 Tryz.underlying154 hj hsh bsx0.liesBuilder];simp only[Result.andThen];rw[Oper.upon_value]
  go_wp2
  go_end0
  exact⟨rfl,rfl⟩
theorem cX0 (B b:Nat)(bs:List Value)(w:World)(h:Lib.IsBuilderF 156 5 B b bs w):
    Calls Tryz.prog 134 #[.pointer (some ⟨b,0,none⟩)] w fun e w'=>e= .returned (.tuple #[])∧(Lib.BuilderAtF 156 5 B b (.pointer (some ⟨b,0,none⟩)) bs w'∧Below B w w'∧Lib.OthersKept 5 (some b) w w'):=by
  rcases h with h|h
  · refine(bX6 b w h.cell0 h.shape h.frozen0).mono ?_
    rintro e w' ⟨rfl,rfl⟩;exact⟨rfl,h.used _,(Below.refl B w).setCell (p:=⟨b,0,none⟩) h.1 _,(Lib.OthersKept.refl _ _ w).setCell ⟨b,0,none⟩ rfl _⟩
  · refine(cF9 b w h.cell0).mono ?_
    rintro e w' ⟨rfl,rfl⟩;exact⟨rfl,h,Below.refl B _,Lib.OthersKept.refl _ _ _⟩
set_option maxHeartbeats 16000000 in
theorem cT7 (B b:Nat)(bs:List Value)(c:Int)(w:World)(h:Lib.IsBuilderF 156 5 B b bs w)(hlen:bs.length+1≤140737488355328)(hBw:B≤w.heap.size):
    Calls Tryz.prog 108 #[.pointer (some ⟨b,0,none⟩),.int .u8 c] w fun e w'=>e= .returned .nilIface∧(Lib.BuilderAtF 156 5 B b (.pointer (some ⟨b,0,none⟩)) (bs++[.int .u8 c]) w'∧Below B w w'∧Lib.OthersKept 5 (some b) w w'):=by
  obtain⟨i0,hi,hz0,hz1,hz2⟩:=info_parts bsx0.infoByte
  go_enter Tryz.func108,Tryz.ntmps108
  go_wp2_with (go_at_call 134;refine(cX0 B b bs _ h).mono ?_)
  rintro e w1 ⟨rfl,h1,hb1,hk1⟩;obtain⟨hB,v,hbk,hown,hne⟩:=h1;have c0:w1.cell? ⟨b,0,none⟩=some (.pointer (some ⟨b,0,none⟩)):=by rw[Lib.cell_of_heap hbk];rfl
  have c1:w1.cell? ⟨b,1,none⟩=some v:=by rw[Lib.cell_of_heap hbk];rfl
  go_wp2_with (at_builtin;refine wpList_append_ownF _ rfl _ _ 52 rfl B 5 i0 (.int .u8 0) 1 1 Tryz.underlying52 hi hz0 hz1 hz2 rfl (by decide) _ _ _ rfl (hown.alloc _) ⟨w1.heap.size,0,none⟩ 1 1 [.int .u8 c] rfl rfl ?c1 ?c2 ?c3 ?c4 ?c5 ?_)
  case c1=>
    intro j u hj
    match j,hj with
    |0,hj=>simp at hj;subst hj;simp[Addr.add]
  case c2=>intro u hu;simp at hu;subst hu;rfl
  case c3=>unfold maxLen;omega
  case c4=>omega
  case c5=>have:=hb1.size;simp;omega
  intro v' w2 hown' hgrow _;have hlt:b<w1.heap.size:=by
    rcases Nat.lt_or_ge b w1.heap.size with h'|h'
    · exact h'
    · simp[Array.getElem?_eq_none h']at hbk
  have hb2:w2.heap[b]? =some (.cells #[.pointer (some ⟨b,0,none⟩),v] 156 (0,0)):=by
    rw[hgrow.block b (by simp;omega) (fun e=>hne e.symm),Lib.alloc_old w1 _ b hlt];exact hbk
  have d0:w2.cell? ⟨b,0,none⟩=some (.pointer (some ⟨b,0,none⟩)):=by rw[Lib.cell_of_heap hb2];rfl
  have d1:w2.cell? ⟨b,1,none⟩=some v:=by rw[Lib.cell_of_heap hb2];rfl
  have f1:w2.frozen? ⟨b,1,none⟩=false:=Lib.frozen_of_heap hb2 1;obtain⟨g,cap,rfl⟩: ∃g cap,v'= .slice (some ⟨g,0,none⟩) (bs.length+1) cap:=by
    rcases hown'.2 with⟨_,h0⟩|⟨g,cap,cur,fz,hv,_⟩
    · omega
    · exact⟨g,cap,hv⟩
  go_wp2
  go_ret
  refine⟨rfl,?_,?_,((hk1.alloc _).grown hgrow (Lib.ownsRowF_kind (hown.alloc _))).setCell ⟨b,1,none⟩ rfl _⟩
  · exact Lib.BuilderAtF.put (T:=156) (e:=5) hB hb2 (bs':=bs++[.int .u8 c]) (by simpa using hown') (by decide)
  · exact((hb1.alloc (by have:=hb1.size;omega) _).grown hgrow (by have:=hb1.size;simp;omega) (fun k hk=>(hown.lt k hk).1)).setCell (p:=⟨b,1,none⟩) hB _
set_option maxHeartbeats 16000000 in
theorem bX7 (bs:List UInt8)(h0:0<bs.length)(hl:bs.length<2^40)(b off c:Nat)(w:World)(hc: ∀j,j<bs.length→w.cell? ⟨b,off+j,none⟩=some (.int .u8 (bs.getD j 0).toNat)):
    Calls Tryz.prog 80 #[.slice (some ⟨b,off,none⟩) bs.length c] w fun e w'=>e= .returned (.string ⟨(iV bs).toArray⟩)∧Below w.heap.size w w':=by
  have hb:b<w.heap.size:=by
    rcases Nat.lt_or_ge b w.heap.size with h'|h'
    · exact h'
    · have:=hc 0 h0
      simp[World.cell?,Array.getElem?_eq_none h']at this
  go_enter Tryz.func80,Tryz.ntmps80
  go_wp2
  go_loopw [8] (fun vi wr=> ∃(i:Nat),vi= .int .i64 i∧i≤bs.length∧Lib.IsBuilderF 156 5 w.heap.size w.heap.size (Lib.byteCells (iV (bs.take i))) wr∧Below w.heap.size w wr) (fun vi _=>bs.length-(intOf vi).toNat)
  case atStart=>
    exact⟨0,rfl,by omega,(Lib.IsBuilderF.of (Lib.fresh_isBuilder 156 5 w)),(Below.refl _ w).alloc (Nat.le_refl _) _⟩
  case round=>
    obtain⟨i,rfl,hi,hI,hB⟩:=hrel;have hsz:w.heap.size≤wr.heap.size:=hB.size;by_cases hlt:i<bs.length
    · have hcell:wr.cell? ⟨b,off+i,none⟩=some (.int .u8 (bs[i].toNat)):=by
        have:=hc i hlt;simp only[World.cell?,hB.block b hb]at this⊢;simpa[hlt]using this
      have hx0:=bs[i].toNat_lt;have hx1:0≤(bs[i].toNat:Int)/16∧(bs[i].toNat:Int)/16<16:=by omega
      have hx2:0≤(bs[i].toNat:Int)%16∧(bs[i].toNat:Int)%16<16:=by omega
      have hlen:(Lib.byteCells (iV (bs.take i))).length+1≤140737488355328:=by rw[Lib.byteCells_length,lV,List.length_take];omega
      go_wp2_with (go_at_call 108;refine(cT7 w.heap.size w.heap.size _ _ _ hI hlen hsz).mono ?_)
      rintro e W1 ⟨rfl,h1,b1,k1⟩;have hsz1:w.heap.size≤W1.heap.size:=by have:=b1.size;omega
      have e1: ∀(l:List UInt8) (x:UInt8),Lib.byteCells l++[Value.int .u8 x.toNat]=Lib.byteCells (l++[x]):=fun l x=>by rw[Lib.byteCells_append];rfl
      rw[e1]at h1;have hlen1: ∀x:UInt8,(Lib.byteCells (iV (bs.take i)++[x])).length+1≤140737488355328:=fun x=>by rw[Lib.byteCells_length,List.length_append,lV,List.length_take];simp;omega
      go_wp2_with (go_at_call 108;refine(cT7 w.heap.size w.heap.size _ _ _ (Or.inr h1) (hlen1 _) hsz1).mono ?_)
      rintro e W2 ⟨rfl,h2,b2,k2⟩;rw[e1]at h2
      go_wp2
      go_roundw
      case rel=>
        refine⟨i+1,by simp,hlt,Or.inr ?_,(hB.trans b1).trans b2⟩;rw[bK3 hlt,bU2,mX,mX];have g1: ∀(n:Nat) (h:n<16),(([48,49,50,51,52,53,54,55,56,57,97,98,99,100,101,102]:List UInt8).getD n 0)=(⟨#[48,49,50,51,52,53,54,55,56,57,97,98,99,100,101,102]⟩:ByteArray)[n]'h:=by decide
        rw[g1 _ (by omega),g1 _ (by omega)];simpa using h2
      case measure=>
        simp[intOf];omega
    · go_wp2_with (go_at_call 109;refine(Any.Builder_String_any_k bs0 bsx0 w.heap.size w.heap.size (iV (bs.take i)) _ hI (by omega)).mono ?_)
      rintro e W1 ⟨rfl,_,b1,_⟩
      go_wp2
      go_ret
      have:i=bs.length:=by omega
      subst this;rw[List.take_length];exact⟨rfl,hB.trans b1⟩
theorem cO4 (bs:List UInt8)(h0:0<bs.length)(hl:bs.length<2^40):cE Tryz.prog 80 [.slc (bs.map u8)] (fun v=>v= .str (iV bs)):=by
  have hok:eL Tryz.prog 80=true:=by kernel_rfl
  refine⟨qY hok,fun w ρ X xs hS hA hX=>Does.of hok ?_⟩;simp only[List.map_cons,List.map_nil,bF,RepHV]at hA;obtain⟨x,zs,rfl,hx,rfl⟩:=hA;have h1:=RepV.single hx rfl;simp only[RepC,List.cons.injEq,and_true]at h1;obtain⟨a,cap,ys,sz,rfl,h2,_,h4,h5,h6⟩:=h1;have hys:ys=bs.map fun b=>Value.int .u8 b.toNat:=by
    have key: ∀(bs:List UInt8) (xs:List Value),RepL w (Owned ρ X) (bs.map u8) xs→xs=bs.map fun b=>Value.int .u8 b.toNat:=by
      intro bs;induction bs with
      |nil=>intro xs h;simpa[RepL]using h
      |cons b bs ih=>
        intro xs h;simp only[List.map_cons,RepL,u8,RepC]at h;obtain⟨c1,c2,rfl,rfl,h7⟩:=h;rw[ih c2 h7];rfl
    exact key bs ys h2
  subst hys;simp only[List.length_map];cases a with
  |none=>
    have hz:=h5 rfl;simp only[List.length_map]at h4;omega
  |some ad=>
    have hr:=(h6 ad rfl).1;have hspot:ad.spot=none:=by
      have:=hr 0 (Value.int .u8 bs[0].toNat) (by simp[h0]);simp only[World.cell?]at this;split at this
      · split at this
        · cases this
        · rename_i hh;simpa[Addr.add]using hh
      · cases this
    obtain⟨b,off,spot⟩:=ad;simp only at hspot;subst hspot;refine(bX7 bs h0 hl b off cap w fun j hj=>?_).mono ?_
    · have:=hr j (Value.int .u8 bs[j].toNat) (by simp[hj])
      have e:(⟨b,off,none⟩:Addr).add j=⟨b,off+j,none⟩:=by
        by_cases h0:j=0
        · subst h0;rfl
        · simp[Addr.add,h0]
      rw[e]at this;rw[this];simp[hj]
    · rintro ex w' ⟨rfl,hb⟩
      have hs2:Stay2 w (Hl.Own ρ) w' (Hl.Own ρ):=⟨fun g hg _=>hb.block g hg,fun _ h=> .inl h,hb.size,hb.os,hb.tape,hb.output⟩;refine⟨_,_,ρ,_,rfl,⟨_,rfl,rfl,rfl⟩,⟨?_,⟨fun i o ho=>by simp[dF]at ho,hS.none,hS.apart,hS.xb⟩,by simp[HV.men],fun i o ho=>by simp[dF]at ho,hs2,Moves.refl _ _⟩⟩;refine bQ ?_ rfl rfl;simp[RepC]
end Go.Proofs.YthedbjfipmkpiaaGreatDoor
namespace Go.Proofs.YthedbjfipmkpiaaGreatDoor
open Go Go.Hl Go.Pl
set_option maxRecDepth 10000
set_option maxHeartbeats 16000000
theorem wC (d:Dig):cE Tryz.prog 45 [dg d] (fun v=>v= .str (jG d)):=by
 refine FW Tryz.func45 ?_;refine R0 ?_;refine bI1 1 0 rfl rfl ?_;have hle:7+(iV d.1).length≤9223372036854775807:=by rw[lV,d.2];omega
 refine aC fun K hK=>Rg ?_;refine S0 ?_ (e:=fun _ h_=>by simp only[sH,↓sP,sA,tyS,simprocAttr,bS2,jC,d.2,denilL_u8,List.drop_zero,aJ2,hle];exact AX h_);refine HS rfl rfl fun K' hK'=>?_;simp only[sH,↓sP,sA,tyS,simprocAttr,bS2,jC,d.2,denilL_u8,List.drop_zero,aJ2,hle];refine C1 (cO4 d.1 (by rw[d.2];omega) (by rw[d.2];omega)) ?_;rintro u rfl;refine AX (hK' _ _ ?_);clear hK' K';iterate 2 refine S0 ?_ (e:=fun _ h_=>by simp only[sH,↓sP,sA,tyS,simprocAttr,bS2,jC,d.2,denilL_u8,List.drop_zero,aJ2,hle];exact AX h_)
 refine T2 (hK _ _ _ ?_);clear hK K;refine aH (RT Tryz.results45 ?_);exact aJ [] (.str _) rfl rfl
end Go.Proofs.YthedbjfipmkpiaaGreatDoor
