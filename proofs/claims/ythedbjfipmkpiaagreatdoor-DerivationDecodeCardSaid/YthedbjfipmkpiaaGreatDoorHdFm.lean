/- strconv.FormatInt at base 10, at this seat: from the shelf. By an AI agent. -/
import Derived.Test.YthedbjfipmkpiaaGreatDoorPl02g
import Derived.Test.YthedbjfipmkpiaaGreatDoorPl31
import Derived.Lib.ItoaLen
import Derived.Test.YthedbjfipmkpiaaGreatDoorHdSb
import Derived.Test.YthedbjfipmkpiaaGreatDoorHlTlaw
import Derived.Sort.Grow
import Derived.Sort.EncStr
import Derived.Shelf.LaysM
import Derived.Shelf.Strconv.Itoa4
set_option linter.unusedSimpArgs false
set_option linter.unusedVariables false
set_option linter.defProp false
namespace Go.Pl
open Go Go.Hl
theorem wE (c:UInt8): ∀m:aG,aU c (m++[c])=aU c m++[[]]
 |[]=>by simp[aU]
 |b::m=>by
  have ih:=wE c m;simp only[List.cons_append];rw[aU,aU];by_cases h:b=c
  · grind
  · rw[if_neg h,if_neg h,ih];grind[aU,absurd,dF]
theorem oM {c:UInt8}: ∀{l:aG},l≠[]→(aU c l).getLast (dF c l)=[]→ ∃m,l=m++[c]
 |[],h,_=>absurd rfl h
 |b::l,_,hl=>by
  by_cases h:b=c
  ·
   subst h;have hs:aU b (b::l)=[]::aU b l:=by rw[aU,if_pos rfl]
   cases l with
   |nil=>simp_all
   |cons d l=>
    have:(aU b (d::l)).getLast (dF b _)=[]:=by
     simp only[hs]at hl;rw[List.getLast_cons (dF b _)]at hl;exact hl
    obtain⟨m,hm⟩:=oM (l:=d::l) (by simp) this;grind
  ·
   cases hs:aU c l with
   |nil=>exact absurd hs (dF c l)
   |cons x xs=>
    have hs2:aU c (b::l)=(b::x)::xs:=by rw[aU,if_neg h,hs]
    simp only[hs2]at hl;cases xs with
    |nil=>grind
    |cons y ys=>
     have hne:l≠[]:=by rintro rfl;simp[aU]at hs
     have:(aU c l).getLast (dF c l)=[]:=by
      simp only[hs];rw[List.getLast_cons (by simp)]at hl⊢;exact hl
     obtain⟨m,hm⟩:=oM hne this;grind
def nK (c:UInt8):List aG→aG
 |[]=>[]
 |w::l=>w++l.flatMap fun v=>c::v
theorem oN (c:UInt8): ∀l:aG,nK c (aU c l)=l
 |[]=>rfl
 |b::l=>by
  have ih:=oN c l;rw[aU];cases hs:aU c l with
  |nil=>exact absurd hs (dF c l)
  |cons x xs=>
   grind[nK]
theorem wF {c:UInt8}: ∀{w:aG},(∀b∈w,b≠c)→aU c w=[w]
 |[],_=>rfl
 |b::w,h=>by
  rw[aU,if_neg (h b List.mem_cons_self),wF fun x hx=>h x (List.mem_cons_of_mem _ hx)]
theorem yV {c:UInt8}{r:aG}: ∀{w:aG},(∀b∈w,b≠c)→aU c (w++c::r)=w::aU c r
 |[],_=>by simp only[List.nil_append];rw[aU,if_pos rfl]
 |b::w,h=>by
  simp only[List.cons_append];rw[aU,if_neg (h b List.mem_cons_self),yV fun x hx=>h x (List.mem_cons_of_mem _ hx)]
theorem oP {c:UInt8}: ∀{l:List aG},l≠[]→(∀w∈l,∀b∈w,b≠c)→aU c (nK c l)=l
 |[],h,_=>absurd rfl h
 |[w],_,h=>by grind[nK,wF,List.mem_cons_self]
 |w::v::l,_,h=>by
  have ih:=oP (c:=c) (l:=v::l) (by simp) fun x hx=>h x (List.mem_cons_of_mem _ hx);grind[nK,yV,List.mem_cons_self]
theorem aZ7 (c:UInt8)(m:aG):((aU c m).flatMap fun r=>r++[c])=m++[c]:=by
 have h:=oN c m;cases hs:aU c m with
 |nil=>exact absurd hs (dF c m)
 |cons x xs=>
  rw[hs]at h;simp only[nK]at h;rw[←h];have key: ∀(x:aG) (xs:List aG),(List.flatMap (fun r=>r++[c]) (x::xs))=(x++xs.flatMap fun v=>c::v)++[c]:=by
   intro x xs;induction xs generalizing x with
   |nil=>simp
   |cons y ys ih=>
    grind
  grind
set_option maxRecDepth 20000 in
theorem aR9 {c:UInt8}(h:valH c<16):oK (valH c)=c:=by
 have key: ∀n:Fin 256,valH (UInt8.ofNat n.1)<16→oK (valH (UInt8.ofNat n.1))=UInt8.ofNat n.1:=by decide
 have:=key ⟨c.toNat,c.toNat_lt⟩;simp_all
set_option maxRecDepth 20000 in
theorem aE5 {n:Nat}(h:n<16):valH (oK n)=n:=by
 have key: ∀n:Fin 16,valH (oK n.1)=n.1:=by decide
 exact key ⟨n,h⟩
theorem bW4 {x y:UInt8}(h:okH x y=true):jV (byteH x y)=[37,x,y]:=by
 simp only[okH,Bool.and_eq_true,decide_eq_true_eq,Bool.not_eq_true']at h;obtain⟨⟨h1,h2⟩,h3⟩:=h;unfold jV;rw[h3,uV h1 h2];have e1:(16*valH x+valH y)/16=valH x:=by omega
 have e2:(16*valH x+valH y)%16=valH y:=by omega
 simp only[Bool.false_eq_true,if_false,e1,e2,aR9 h1,aR9 h2]
variable {c:UInt8}
theorem yW (h:cT c=true):jV c=[c]:=by unfold jV;grind
theorem aK4 : ∀(n:Nat) {s w:aG},s.length≤n→unB s=some w→dB w=s
 |0,s,w,hn,h=>by simp_all[List.eq_nil_of_length_eq_zero,unB,Option.some.injEq]
 |n+1,[],w,_,h=>by simp_all[unB,Option.some.injEq]
 |n+1,c::l,w,hn,h=>by
  simp only[List.length_cons]at hn;by_cases hp:cT c=true
  · rw[pH hp,Option.map_eq_some_iff]at h;obtain⟨w',h',rfl⟩:=h;have ih:=aK4 n (by omega) h';grind[dB,yW]
  ·
   have hp:cT c=false:=by simpa using hp
   by_cases hc:c=37
   ·
    subst hc
    match l,h with
    |[],h=>grind[wZ]
    |[x],h=>grind[wZ]
    |x::y::l',h=>
     by_cases ho:okH x y=true
     · rw[aK2 ho,Option.map_eq_some_iff]at h;obtain⟨w',h',rfl⟩:=h;have ih:=aK4 n (by grind) h';grind[dB,bW4]
     grind[wD]
   grind[wZ]
variable {s:aG}
theorem cH2 {w:aG}(h:unW s=some w):jC w=s:=by
 unfold unW at h;split at h
 · rename_i hs;cases h;rw[hs];rfl
 ·
  split at h
  · cases h
  · rename_i h1 h2;have:=aK4 _ (Nat.le_refl _) h;unfold jC;rw[if_neg (cP9 h2 h),this]
theorem aE6 : ∀w:aG,unB (dB w)=some w
 |[]=>rfl
 |c::w=>by
  have ih:=aE6 w;have e:dB (c::w)=jV c++dB w:=by simp[dB]
  rw[e];by_cases hp:cT c=true
  · grind[yW,pH]
  ·
   have hp:cT c=false:=by simpa using hp
   have hlt:=c.toNat_lt;have h1:valH (oK (c.toNat/16))=c.toNat/16:=aE5 (by omega);have h2:valH (oK (c.toNat%16))=c.toNat%16:=aE5 (by omega);have hb:byteH (oK (c.toNat/16)) (oK (c.toNat%16))=c:=by
    unfold byteH;rw[h1,h2,Nat.div_add_mod];exact UInt8.ofNat_toNat
   have ho:okH (oK (c.toNat/16)) (oK (c.toNat%16))=true:=by
    simp only[okH,hb,hp,h1,h2,Bool.and_eq_true,decide_eq_true_eq,Bool.not_false,and_true];omega
   grind[jV,oK,aK2]
variable {b:UInt8}
theorem aE7 (h:b∈jV c):b≠10∧b≠32∧b≠126:=by
 unfold jV at h;split at h
 · rename_i hp;simp only[List.mem_singleton]at h;subst h;refine⟨?_,?_,?_⟩<;>(rintro rfl;revert hp;decide)
 ·
  have key: ∀n:Nat,oK n≠10∧oK n≠32∧oK n≠126:=by
   intro n;unfold oK;rcases Nat.lt_or_ge n 16 with hn|hn
   ·
    have: ∀n:Fin 16,([48,49,50,51,52,53,54,55,56,57,65,66,67,68,69,70]:List UInt8).getD n.1 0≠10∧([48,49,50,51,52,53,54,55,56,57,65,66,67,68,69,70]:List UInt8).getD n.1 0≠32∧([48,49,50,51,52,53,54,55,56,57,65,66,67,68,69,70]:List UInt8).getD n.1 0≠126:=by decide
    exact this ⟨n,hn⟩
   · simp_all
  grind
theorem uW {w:aG}(h:b∈jC w):b≠10∧b≠32:=by
 unfold jC at h;split at h
 · grind
 · obtain⟨c,_,hc⟩:=List.mem_flatMap.1 h;grind[aE7]
theorem bW5 (w:aG):unW (jC w)=some w:=by
 unfold jC;split
 · rename_i h;subst h;rfl
 ·
  rename_i h;have hne:dB w≠[]:=by
   intro he;have:=aR1 w;rw[he]at this;exact h (List.eq_nil_of_length_eq_zero (by grind))
  have h126:dB w≠[126]:=by
   intro he;have hm:(126:UInt8)∈dB w:=by rw[he];simp
   obtain⟨c,_,hc⟩:=List.mem_flatMap.1 hm;exact(aE7 hc).2.2 rfl
  simp_all[unW,if_neg,aE6]
theorem pK {α β:Type}{f:α→Option β}: ∀{l:List α} {m:List β},l.mapM f=some m→(∀{g:β→α},(∀x y,f x=some y→g y=x)→m.map g=l)∧m.length=l.length
 |[],m,h=>by grind
 |a::l,m,h=>by
  rw[List.mapM_cons]at h;cases ha:f a with
  |none=>grind
  |some b=>
   rw[ha]at h;cases hl:l.mapM f with
   |none=>grind
   |some m'=>
    rw[hl]at h;cases h;obtain⟨h1,h2⟩:=pK hl;grind
theorem aE8 (l:List aG):iL l=nK 32 (l.map jC):=by
 cases l with
 |nil=>rfl
 |cons w l=>simp[iL,nK,List.flatMap_map]
variable {r:aG}
theorem cH3 {ws:List aG}(h:unL r=some ws):iL ws=r:=by
 have:=(pK h).1 (g:=jC) fun x y h=>cH2 h;rw[aE8,this,oN]
theorem aE9 : ∀l:List aG,(l.map jC).mapM unW=some l
 |[]=>rfl
 |w::l=>by rw[List.map_cons,List.mapM_cons,bW5,aE9 l];rfl
theorem bW6 {l:List aG}(h:l≠[]):unL (iL l)=some l:=by
 unfold unL;rw[aE8,oP (by simp_all) (by
  intro w hw b hb;obtain⟨v,_,rfl⟩:=List.mem_map.1 hw;exact(uW hb).2),aE9]
theorem bL5 {l:List aG}(h:b∈iL l):b≠10:=by
 cases l with
 |nil=>simp at h
 |cons w l=>
  simp only[iL,List.mem_append,List.mem_flatMap]at h;rcases h with h|⟨v,_,h⟩
  · exact(uW h).1
  · rcases List.mem_cons.1 h with rfl|h;all_goals grind[uW]
variable {ls:List (List aG)}
theorem bL6 (h:ls≠[]):gK ls=nK 10 (ls.map iL)++[10]:=by
 cases ls with
 |nil=>grind
 |cons l ls=>
  have key: ∀(l:List aG) (ls:List (List aG)),gK (l::ls)=nK 10 ((l::ls).map iL)++[10]:=by
   intro l ls;induction ls generalizing l with
   |nil=>simp[gK,nK,aA7]
   |cons k ls ih=>
    grind[gK,aA7,nK]
  grind
theorem uX (m:aG):iX (m++[10])=(aU 10 m).mapM unR:=by simp_all[wE,iX,if_neg,if_pos,List.dropLast_concat]
theorem bL7 (h: ∀l∈ls,okL l=true):iX (gK ls)=some ls:=by
 by_cases hne:ls=[]
 · subst hne;simp[iX]
 ·
  rw[bL6 hne,uX,oP (by simpa using hne) (by
   intro w hw b hb;obtain⟨l,_,rfl⟩:=List.mem_map.1 hw;exact bL5 hb)]
  clear hne;induction ls with
  |nil=>rfl
  |cons l ls ih=>
   have hl:=h l List.mem_cons_self;have hr:unR (iL l)=some l:=by
    unfold unR;rw[bW6 ((jH l).1 hl).1];simp only[hl,if_true]
   rw[List.map_cons,List.mapM_cons,hr,ih fun x hx=>h x (List.mem_cons_of_mem _ hx)];rfl
variable {rs:List aG}
theorem bW7 (h:rs.mapM unL=some ls):rs.mapM unR=if ls.all okL then some ls else none:=by
 induction rs generalizing ls with
 |nil=>grind
 |cons r rs ih=>
  rw[List.mapM_cons]at h;cases hr:unL r with
  |none=>grind
  |some l=>
   rw[hr]at h;cases hl:rs.mapM unL with
   |none=>grind
   |some m=>
    rw[hl]at h;cases h;rw[List.mapM_cons,ih hl];unfold unR;rw[hr];simp only[List.all_cons];by_cases h1:okL l=true
    · grind
    grind
theorem aA8 (h:rs.mapM unL=none):rs.mapM unR=none:=by
 induction rs with
 |nil=>grind
 |cons r rs ih=>
  rw[List.mapM_cons]at h⊢;cases hr:unL r with
  |none=>unfold unR;grind
  |some l=>
   rw[hr]at h;have:rs.mapM unL=none:=by
    cases hl:rs.mapM unL with
    |none=>rfl
    |some m=>rw[hl]at h;cases h
   rw[ih this];cases unR r<;>rfl
variable {m:aG}
theorem bL8 (h:(aU 10 m).mapM unL=some ls):gK ls=m++[10]:=by
 have h1:=(pK h).1 (g:=iL) fun x y h=>cH3 h;have h2:=aZ7 10 m;rw[←h1]at h2;rw[←h2];simp only[gK,List.flatMap_map];rfl
theorem bL9 {b:aG}(hb: ¬262144<b.length)(hne:b≠[])(h:b.getD (b.length-1) 0≠10):eW b=2:=by
 have:iX b=none:=by
  unfold iX;rw[if_neg hne,if_neg];intro hl;obtain⟨m,rfl⟩:=oM hne hl;simp at h
 unfold eW;rw[if_neg hb,this]
theorem bM0 (hb: ¬262144<(m++[10]).length)(h:(aU 10 m).mapM unL=none):eW (m++[10])=2:=by
 unfold eW;rw[if_neg hb,uX,aA8 h]
theorem bW8 (hb: ¬262144<(m++[10]).length)(h:(aU 10 m).mapM unL=some ls):(kY ls=0→eW (m++[10])=0∧gZ (m++[10])=ls)∧(kY ls≠0→eW (m++[10])=2):=by
 have hd:=bL8 h;have hv:=bW7 h;rw[←uX]at hv;by_cases hk:ls.all okL=true
 ·
  rw[if_pos hk]at hv;have hE:eW (m++[10])=if 1000<ls.length then 2 else 0:=by unfold eW;rw[if_neg hb,hv]
  by_cases hl:1000<ls.length
  · rw[if_pos hl]at hE;exact⟨fun he=>absurd (he.symm.trans (uS hl)) (by decide),fun _=>hE⟩
  ·
   rw[if_neg hl]at hE;have he:kY ls=0:=by
    rw[aK0 (by omega) (by simpa using hk),hd,if_neg hb]
   exact⟨fun _=>⟨hE,by unfold gZ;rw[if_pos hE,hv];rfl⟩,fun hn=>absurd he hn⟩
 ·
  rw[if_neg hk]at hv;have hE:eW (m++[10])=2:=by unfold eW;rw[if_neg hb,hv]
  refine⟨fun he=>?_,fun _=>hE⟩;exfalso;apply hk;unfold kY at he;split at he
  · cases he
  ·
   split at he
   · rename_i l hf;have:=List.find?_some hf;exact absurd he (bE4 (by simpa using this))
   · rename_i hf;rw[List.find?_eq_none]at hf;rw[List.all_eq_true];intro l hl;simpa using hf l hl
def lsT (rows:List aG)(i:Nat):List (List aG):=(rows.take i).map fun r=>(unL r).getD []
variable {i:Nat}{rows:List aG}
theorem bW9 (h:i<rows.length):lsT rows (i+1)=lsT rows i++[(unL rows[i]).getD []]:=by
 simp only[lsT,List.take_succ_eq_append_getElem h,List.map_append,List.map_cons,List.map_nil]
theorem aZ8 (h:i≤rows.length):(lsT rows i).length=i:=by
 simp only[lsT,List.length_map,List.length_take];omega
theorem bX0 (h:i<(aU 32 r).length)(h2:(unW (aU 32 r)[i]).isSome=false):unL r=none:=
 pI (List.getElem_mem h) (by simpa using h2)
theorem cH4 (h:aR5 r (aU 32 r).length):unL r=some (wsT r (aU 32 r).length):=by
 unfold aR5 at h;rw[List.take_length]at h;unfold unL;rw[tA [] h];simp only[wsT,List.take_length]
theorem cH5 (h: ∀r∈rows.take rows.length,(unL r).isSome=true):rows.mapM unL=some (lsT rows rows.length):=by
 rw[List.take_length]at h;rw[tA [] h];simp only[lsT,List.take_length]
variable {n:Nat}
theorem bX1 (h: ∀r∈rows,r.length<n): ∀l∈lsT rows rows.length,l.length<n+1:=by
 intro l hl;simp only[lsT,List.take_length,List.mem_map]at hl;obtain⟨r,hr,rfl⟩:=hl;have h1:=h r hr;cases hu:unL r with
 |none=>simp
 |some ws=>
  have:=(pK hu).2;have h2:=eV 32 r;simp only[Option.getD_some];omega
theorem qV : ∀(l:List aG) (a:List aG),Asc a→Asc (l.foldl aP0 a)∧ ∀w,w∈l.foldl aP0 a↔w∈a∨w∈l
 |[],a,h=>⟨h,fun w=>by simp⟩
 |x::l,a,h=>by
  obtain⟨h1,h2⟩:=qV l (aP0 a x) (bT2 h x);refine⟨h1,fun w=>?_⟩;rw[List.foldl_cons,h2,bT1,List.mem_cons];constructor
  ·
   rintro((h|h)|h)
   · exact .inl h
   · exact .inr (.inl h)
   · exact .inr (.inr h)
  ·
   rintro(h|h|h)
   · exact .inl (.inl h)
   · exact .inl (.inr h)
   · exact .inr h
theorem bX2 (l:List aG):Asc (bK1 l):=(qV l [] List.Pairwise.nil).1
theorem bX3 {l:List aG}{w:aG}:w∈bK1 l↔w∈l:=by
 have:=(qV l [] List.Pairwise.nil).2 w;simpa[bK1]using this
def cN :List aG→List aG
 |a::b::l=>if a==b then cN (b::l)else a::cN (b::l)
 |l=>l
theorem uY : ∀{l:List aG} {w:aG},w∈cN l↔w∈l
 |[],w=>by simp[cN]
 |[a],w=>by simp[cN]
 |a::b::l,w=>by
  have ih:=uY (l:=b::l) (w:=w);simp only[cN];split
  ·
   rename_i h;have:a=b:=by simpa using h
   subst this;rw[ih];simp
  · rw[List.mem_cons,ih,List.mem_cons (b:=a)]
theorem aF0 : ∀{l:List aG},l.Pairwise (· ≤·)→Asc (cN l)
 |[],_=>List.Pairwise.nil
 |[a],_=>by simp[cN,Asc]
 |a::b::l,h=>by
  obtain⟨h1,h2⟩:=List.pairwise_cons.1 h;have ih:=aF0 h2;simp only[cN];split
  · exact ih
  ·
   rename_i hne;refine List.pairwise_cons.2 ⟨fun w hw=>?_,ih⟩;rw[uY]at hw;have hab:a≤b:=h1 b (by simp);have hne':a≠b:=by simpa using hne
   have hlt:=oE hab hne';rcases List.mem_cons.1 hw with rfl|hw
   · exact hlt
   ·
    have hbw:b≤w:=(List.pairwise_cons.1 h2).1 w hw;rcases Classical.em (b=w)with rfl|hne2
    · exact hlt
    · exact List.lt_trans hlt (oE hbw hne2)
theorem aZ9 {l s:List aG}(hs:s.Pairwise (· ≤·))(hp: ∀w,w∈s↔w∈l):cN s=bK1 l:=
 cF9 (aF0 hs) (bX2 l) fun w=>by rw[uY,bX3,hp]
section
variable {r:Rt}{role:aG}{a b:List Dig}{t:Int}
end
section
variable {α:Type}{p:α→Bool}{l:List α}
theorem bM1 {i:Nat}(hi:i<l.length)(h:p l[i]=false)(h0: ∀x∈l.take i,p x=false): ∀x∈l.take (i+1),p x=false:=fun x hx=>by
 rw[List.take_succ_eq_append_getElem hi,List.mem_append,List.mem_singleton]at hx;rcases hx with hx|rfl
 · exact h0 x hx
 · exact h
end
theorem cQ0 {d:Dig}(h:i<32):CV.getAt i 1 false (dg d)=some (u8 (d.1[i]'(by rw[d.2];exact h))):=cP3 (l:=d.1) (by rw[d.2];exact h)
def alZ (c:UInt8):Bool:=(decide (97≤(c.toNat:Int))&&decide ((c.toNat:Int)≤122))||(decide (48≤(c.toNat:Int))&&decide ((c.toNat:Int)≤57))
def puZ (c:UInt8):Bool:=((c.toNat:Int)==46)||(((c.toNat:Int)==95)||((c.toNat:Int)==45))
def okc (i:Nat)(c:UInt8):Bool:=alZ c||(decide (0<(i:Int))&&puZ c)
theorem cV1 (c:UInt8):al c=alZ c:=by
 have h1:decide ((97:UInt8)≤c)=decide (97≤(c.toNat:Int)):=by rw[Bool.eq_iff_iff];simp only[decide_eq_true_eq,UInt8.le_iff_toNat_le];show 97≤c.toNat↔_;omega
 have h2:decide (c≤(122:UInt8))=decide ((c.toNat:Int)≤122):=by rw[Bool.eq_iff_iff];simp only[decide_eq_true_eq,UInt8.le_iff_toNat_le];show c.toNat≤122↔_;omega
 have h3:decide ((48:UInt8)≤c)=decide (48≤(c.toNat:Int)):=by rw[Bool.eq_iff_iff];simp only[decide_eq_true_eq,UInt8.le_iff_toNat_le];show 48≤c.toNat↔_;omega
 have h4:decide (c≤(57:UInt8))=decide ((c.toNat:Int)≤57):=by rw[Bool.eq_iff_iff];simp only[decide_eq_true_eq,UInt8.le_iff_toNat_le];show c.toNat≤57↔_;omega
 grind[al,alZ]
theorem cX9 (c d:UInt8):(c==d)=((c.toNat:Int)==(d.toNat:Int)):=by
 rw[Bool.eq_iff_iff];simp only[beq_iff_eq];constructor
 · grind
 grind[UInt8.toNat_inj]
theorem cY0 (c:UInt8):nc c=(alZ c||puZ c):=by simp_all[nc,puZ,cV1,cX9]
theorem uZ :gW s=true↔(1≤s.length∧s.length≤64)∧ ∀i (h:i<s.length),okc i s[i]=true:=by
 cases s with
 |nil=>simp[gW]
 |cons c r=>
  simp only[gW,Bool.and_eq_true,decide_eq_true_eq,List.all_eq_true,cV1,cY0];constructor
  ·
   rintro⟨h1,h2,h3⟩;refine⟨⟨by simp,h1⟩,fun i hi=>?_⟩;cases i with
   |zero=>simp[okc,h2]
   |succ i=>
    have:=h3 _ (List.getElem_mem (by grind:i<r.length));simp only[List.getElem_cons_succ];unfold okc;grind
  ·
   rintro⟨⟨_,h1⟩,h3⟩;refine⟨h1,?_,fun x hx=>?_⟩
   · grind[okc]
   · obtain⟨i,hi,rfl⟩:=List.mem_iff_getElem.1 hx;have:=h3 (i+1) (by grind);simp only[List.getElem_cons_succ]at this;unfold okc at this;grind
theorem aF1 (h: ¬(1≤s.length∧s.length≤64)):gW s=false:=by grind[gW,absurd,uZ]
theorem bM2 (hi:i<s.length)(h:okc i s[i]=false):gW s=false:=by grind[gW,uZ]
theorem bM3 (hi:i<s.length)(h:okc i s[i]=true)(h0: ∀j (_:j<i) (h:j<s.length),okc j s[j]=true): ∀j (_:j<i+1) (h:j<s.length),okc j s[j]=true:=fun j hj h'=>by grind
section
variable {α β:Type}
def bM4 (r:α→α→Bool):List α→Bool
 |a::b::l=>r a b&&bM4 r (b::l)
 |_=>true
theorem aS0 {r:α→α→Bool}: ∀{l:List α},bM4 r l=true↔ ∀i (h:i+1<l.length),r l[i] l[i+1]=true
 |[]=>by simp[bM4]
 |[a]=>by simp[bM4]
 |a::b::l=>by
  have ih:=aS0 (r:=r) (l:=b::l);simp only[bM4,Bool.and_eq_true,ih];constructor
  ·
   rintro⟨h1,h2⟩ i hi;cases i with
   |zero=>exact h1
   |succ i=>exact h2 i (by simpa using hi)
  · intro h;exact⟨h 0 (by simp),fun i hi=>h (i+1) (by simpa using hi)⟩
def GoodTo (p:α→Bool)(r:α→α→Bool)(l:List α)(i:Nat):Prop:=(∀j (h:j<l.length),j<i→p l[j]=true)∧ ∀j (h:j+1<l.length),j+1<i→r l[j] l[j+1]=true
variable {p:α→Bool}{r:α→α→Bool}{l:List α}
theorem GoodTo.zero :GoodTo p r l 0:=⟨fun j _ h=>by omega,fun j _ h=>by omega⟩
theorem GoodTo.one (hi:0<l.length)(h:p l[0]=true):GoodTo p r l 1:=by
 refine⟨fun j h' hj=>?_,fun j _ h=>by omega⟩;have:j=0:=by omega
 subst this;exact h
theorem GoodTo.succ {i:Nat}(hi:i+1<l.length)(h:p l[i+1]=true)(hr:r l[i] l[i+1]=true)(h0:GoodTo p r l (i+1)):GoodTo p r l (i+1+1):=by
 refine⟨fun j h' hj=>?_,fun j h' hj=>?_⟩
 ·
  rcases Nat.lt_or_ge j (i+1)with h1|h1
  · exact h0.1 j h' h1
  ·
   have:j=i+1:=by omega
   subst this;exact h
 ·
  rcases Nat.lt_or_ge (j+1) (i+1)with h1|h1
  · exact h0.2 j h' h1
  ·
   have:j=i:=by omega
   subst this;exact hr
theorem GoodTo.all (h:GoodTo p r l l.length):(l.all p&&bM4 r l)=true:=by
 rw[Bool.and_eq_true,List.all_eq_true,aS0];refine⟨fun x hx=>?_,fun i hi=>h.2 i hi hi⟩;obtain⟨i,hi,rfl⟩:=List.mem_iff_getElem.1 hx;exact h.1 i hi hi
end
theorem denilL_u8 (l:List UInt8):CV.denilL (l.map u8)=l.map u8:=cE (f:=u8) (fun _=>rfl) l
theorem aK5 (d:Dig):(d.1.map u8).take 32=d.1.map u8:=List.take_of_length_le (by rw[List.length_map,d.2];exact Nat.le_refl _)
def kSz (k:Ky):Prop:=k.o.length<2^63∧k.rs.length<2^40∧ ∀w∈k.rs,w.length<2^63
def rSz (r:Rt):Prop:=(r.q.length<2^40∧ ∀q∈r.q,q.r.length<2^63)∧(r.k.length<2^40∧ ∀k∈r.k,kSz k)∧r.x.length<2^40
theorem bX4 (l:List UInt8):(us l).denil=us l:=by simp only[us,CV.denil];rw[cE (f:=u8) (fun _=>rfl)]
variable {l:List UInt8}
theorem cQ1 (h:l.length=n):CV.getAt 0 n true (us l)=some (us l):=by
 have:=us_cells l;simp only[us,CV.cells]at this;simp only[us,CV.getAt,this,h,and_self,if_true]
theorem cH6 (y:UInt8)(h:i<l.length)(h2:l.length≠1):CV.setAt i 1 (.c (.int .u8 (y.toNat:Int))) (us l)=some (.agg (((l.set i y).map u8).map .c)):=cP4 y h h2
@[simp] theorem cT4 (l:List W32)(i:Nat)(x:W32):CV.agg ((l.map w32).set i (w32 x))=ws (l.set i x):=by rw[←List.map_set];rfl
@[simp] theorem cT5 (l:List UInt8)(i:Nat)(x:UInt8):CV.agg ((l.map u8).set i (u8 x))=us (l.set i x):=by rw[←List.map_set];rfl
@[simp] theorem cX4 (b:List UInt8):wA b 0=wz 64:=rfl
@[simp] theorem cX5 (w:List W32):wB w 0=w:=rfl
def cY1 (s r:St)(j:Nat):List W32:=(s.l.zipWith (fun x y=>x+y) r.l).take j++s.l.drop j
@[simp] theorem cT6 (s r:St):cY1 s r 0=s.l:=rfl
section
variable {b:List UInt8}{j:Nat}(h0:64*j≤b.length)(h1:b.length<64*j+64)
include h0 h1
end
section
variable {b:List UInt8}{j:Nat}(h0:64*j≤b.length)(h1:b.length<64*j+64)
include h0 h1
end
@[simp] theorem cX6 (l:List UInt8):CV.agg (l.map u8)=us l:=rfl
def ob8 (s:St)(i:Nat):UInt8:=UInt8.ofNat ((gw s.l (i/4))>>>(24-8*(i%4))).toNat
def cY2 (s:St)(n:Nat):List UInt8:=itN (fun i l=>l.set i (ob8 s i)) n (uz 32)
@[simp] theorem cT7 (s:St):cY2 s 0=uz 32:=rfl
def cY3 (h:aA4):aG:=gR h.1
def jO (d:Dig):aG:=[115,104,97,50,53,54,58]++gR d.1
theorem tC (d:Dig):(jO d).length=71:=by rw[jO,List.length_append,jN,d.2];rfl
theorem bM5 (l:List UInt8):iS (l.map u8)=some l:=bytesC_map l
theorem qW (b:UInt8):iS [CV.int .u8 b.toNat]=some [b]:=bytesC_map [b]
def fB (n:Int):aG:=Lib.itoa n
theorem bX5 {n:Int}(h: -9223372036854775808≤n∧n≤9223372036854775807):(fB n).length≤21:=Lib.itoa_length_le n h.1 h.2
theorem aF2 :fB 0=[48]:=by unfold fB Lib.itoa;rw[if_neg (by omega)];simp[Lib.decDigits]
theorem yX {n:Int}(h:0≤n):fB n=Lib.decDigits n.natAbs:=by unfold fB Lib.itoa;rw[if_neg (by omega)];congr 1;omega
theorem aS1 {n:Int}(h:n<0):fB n=45::Lib.decDigits n.natAbs:=by unfold fB Lib.itoa;rw[if_pos h]
theorem bX6 {v:Nat}(h:v≠0):Lib.decDigits v=(if v/10=0 then []else Lib.decDigits (v/10))++[UInt8.ofNat (48+v%10)]:=by
 by_cases h1:v<10
 · rw[Lib.decDigits,dif_pos h1,if_pos (by omega),show v%10=v by omega];rfl
 · rw[Lib.decDigits,dif_neg h1,if_neg (by omega)]
theorem aK6 {n:Int}(h:n<0)(h1: -9223372036854775808≤n):IntKind.u64.wrap (-(IntKind.u64.wrap n))=(n.natAbs:Int):=by
 have e:IntKind.u64.wrap n=n+18446744073709551616:=by
  have:IntKind.u64.wrap n=n%18446744073709551616:=by simp[IntKind.wrap,IntKind.bits,IntKind.signed]
  rw[this];omega
 rw[e];have: ∀m:Int,IntKind.u64.wrap m=m%18446744073709551616:=fun m=>by simp[IntKind.wrap,IntKind.bits,IntKind.signed]
 rw[this];omega
theorem bE9 {n:Int}(h:0≤n)(h1:n≤9223372036854775807):IntKind.u64.wrap n=(n.natAbs:Int):=by
 have:IntKind.u64.wrap n=n%18446744073709551616:=by simp[IntKind.wrap,IntKind.bits,IntKind.signed]
 rw[this];omega
theorem yY (v:Nat):IntKind.u8.wrap (IntKind.u64.wrap (48+Int.tmod (v:Int) 10))=((UInt8.ofNat (48+v%10)).toNat:Int):=by
 have h1:Int.tmod (v:Int) 10=((v%10:Nat):Int):=rfl;have h2:v%10<10:=Nat.mod_lt _ (by omega);rw[h1];generalize v%10=r at h2;rw[IntWalk.u64_in _ (by omega),IntWalk.u8_in _ (by omega),UInt8.toNat_ofNat',Nat.mod_eq_of_lt (by omega)];omega
theorem cH7 {v:Nat}(h:v<18446744073709551616):IntKind.u64.wrap (Int.tdiv (v:Int) 10)=((v/10:Nat):Int):=by
 rw[show Int.tdiv (v:Int) 10=((v/10:Nat):Int)from rfl,IntWalk.u64_in _ (by omega)]
theorem bX7 {u:Nat}(h:u<18446744073709551616):(Lib.decDigits u).length≤20:=by rw[Lib.decDigits_length];exact Lib.nDigits_le20 u h
inductive Av where
 |i (n:Int)
 |l (n:Int)
 |h (x:aA4)
 |d (x:Dig)
 |s (w:aG)
def Av.w :Av→aG
 | .i n=>fB n
 | .l n=>fB n
 | .h x=>cY3 x
 | .d x=>jO x
 | .s w=>w
def Av.ok :Av→Prop
 | .i n=> -9223372036854775808≤n∧n≤9223372036854775807
 | .l n=> -9223372036854775808≤n∧n≤9223372036854775807
 |_=>True
def valL (c:UInt8):Nat:=if 48≤c.toNat∧c.toNat≤57 then c.toNat-48 else if 97≤c.toNat∧c.toNat≤102 then c.toNat-87 else 16
theorem bF0 (c:UInt8):valL c≤16:=by unfold valL;split<;>(try split)<;>omega
def bF1 :List UInt8:=[48,49,50,51,52,53,54,55,56,57,97,98,99,100,101,102]
set_option maxRecDepth 20000 in
theorem oR (c:UInt8):fH bF1 c=if valL c<16 then(valL c:Int)else-1:=by
 have h: ∀n:Fin 256,fH bF1 (UInt8.ofNat n.1)=if valL (UInt8.ofNat n.1)<16 then(valL (UInt8.ofNat n.1):Int)else-1:=by decide
 have:=h ⟨c.toNat,c.toNat_lt⟩;simpa only[UInt8.ofNat_toNat]using this
def hX (s:aG)(i:Nat):UInt8:=s.getD (2*i) 0
def hY (s:aG)(i:Nat):UInt8:=s.getD (2*i+1) 0
def hB (s:aG)(i:Nat):UInt8:=UInt8.ofNat (16*valL (hX s i)+valL (hY s i))
def hOk (s:aG)(i:Nat):Bool:=decide (valL (hX s i)<16)&&decide (valL (hY s i)<16)
theorem bX8 (hx:valL (hX s i)<16)(hy:valL (hY s i)<16):(hB s i).toNat=16*valL (hX s i)+valL (hY s i):=by
 unfold hB;rw[UInt8.toNat_ofNat'];omega
def cW (s:aG)(n:Nat):Option (List UInt8):=if s.length=2*n∧(List.range n).all (hOk s)=true then some ((List.range n).map (hB s))else none
def UhSt (s:aG)(n i:Nat)(l:List UInt8):Prop:=l.length=n∧i≤n∧l.take i=(List.range i).map (hB s)∧ ∀j,j<i→hOk s j=true
theorem UhSt.init (s:aG)(h:l.length=n):UhSt s n 0 l:=⟨h,Nat.zero_le _,by simp,fun j hj=>by omega⟩
theorem UhSt.next (h:UhSt s n i l)(hi:i<n)(hk:hOk s i=true):UhSt s n (i+1) (l.set i (hB s i)):=by
 obtain⟨h1,h2,h3,h4⟩:=h;refine⟨by simpa using h1,hi,?_,fun j hj=>?_⟩
 · rw[List.take_succ_eq_append_getElem (by rw[List.length_set];omega),List.getElem_set_self,List.take_set_of_le (Nat.le_refl _),h3,List.range_succ,List.map_append];rfl
 ·
  rcases Nat.lt_or_ge j i with h'|h'
  · exact h4 j h'
  ·
   have:j=i:=by omega
   rw[this];exact hk
theorem UhSt.fin (h:UhSt s n n l)(hs:s.length=2*n):cW s n=some l:=by
 obtain⟨h1,h2,h3,h4⟩:=h;unfold cW;rw[if_pos ⟨hs,by rw[List.all_eq_true];intro j hj;exact h4 j (List.mem_range.1 hj)⟩,←h3,List.take_of_length_le (by omega)]
theorem UhSt.bad (_:UhSt s n i l)(hi:i<n)(hk:hOk s i=false):cW s n=none:=by
 unfold cW;rw[if_neg];rintro⟨_,h⟩;have:=List.all_eq_true.1 h i (List.mem_range.2 hi);rw[hk]at this;cases this
theorem qX (h:s.length≠2*n):cW s n=none:=by unfold cW;rw[if_neg fun h'=>h h'.1]
theorem jI (h:cW s n=some l):l.length=n:=by
 unfold cW at h;split at h
 · cases h;simp
 · cases h
theorem bX9 (l:List UInt8):(l.map u8).all (fun v=>v.cells==1)=true:=by simp[List.all_eq_true,u8,CV.cells]
theorem vA (l:List UInt8):CV.cellsL (l.map u8)=l.length:=mX (fun _=>rfl) l
theorem bM6 (y:UInt8)(h:i<l.length):CV.setAtL i 1 (.c (.int .u8 (y.toNat:Int))) (l.map u8)=some (((l.set i y).map u8).map .c):=qP (f:=u8) (fun _=>rfl) (fun _ _=>rfl) y l i h
def prefB (s p:aG):Bool:=decide (p.length≤s.length)&&(s.take p.length==p)
def cV2 (s:aG):Option aA4:=match h:cW s 16 with|some l=>some ⟨l,jI h⟩|none=>none
def shaW :aG:=[115,104,97,50,53,54,58]
def eK (s:aG):Option Dig:=if prefB s shaW then match h:cW (s.drop 7) 32 with|some l=>some ⟨l,jI h⟩|none=>none else none
theorem vB (hp:prefB s shaW=true)(h:cW (s.drop 7) 32=some l)(hl:l.length=32):eK s=some ⟨l,hl⟩:=by
 unfold eK;rw[if_pos hp];split
 · rename_i l' h';rw[h]at h';cases h';rfl
 · rename_i h';rw[h]at h';cases h'
theorem mH (h:prefB s shaW=true→cW (s.drop 7) 32=none):eK s=none:=by
 unfold eK;split
 ·
  rename_i hp;split
  · rename_i l' h';rw[h hp]at h';cases h'
  · rfl
 · rfl
theorem aF3 {e:Operand→HV}{K:HV→Prop}{n b:Nat}{d:TyD}:gP {size:=n,bytes:=b,d:=d,z:=zd} [] e K=K (.c zd):=by
 simp only[gP,zd,dg,hfill,hlift_some];rw[cF8]
def wd (l:List aG)(i:Nat):aG:=l.getD i []
def bY0 (l:List aG)(x:Rt):Option Rt:=
 if l.length=3 then match cP (wd l 2)with|some n=>some {x with q:=x.q++[⟨wd l 1,n⟩]}|none=>none else none
def cV3 (l:List aG)(x:Rt):Option Rt:=
 if l.length<6 then none else match cP (wd l 1),cV2 (wd l 2),cP (wd l 4),cP (wd l 5)with
  |some h,some r,some a,some b=>some {x with k:=x.k++[⟨⟨h,r⟩,wd l 3,l.drop 6,a,b⟩]}
  |_,_,_,_=>none
def cV4 (l:List aG)(x:Rt):Option Rt:=
 if l.length=3 then match eK (wd l 1),cP (wd l 2)with|some d,some t=>some {x with x:=x.x++[⟨d,t⟩]}|_,_=>none else none
theorem qY (a b:aG): ∀p:List aG,cN (p++[a,b])=if a==b then cN (p++[a])else cN (p++[a])++[b]
 |[]=>by
  simp only[List.nil_append,cN];split
  · rename_i h;rw[eq_of_beq h]
  · rfl
 |[x]=>by
  have ih:=qY a b [];simp only[List.nil_append]at ih;simp only[List.cons_append,List.nil_append];have e1:cN (x::a::[b])=if x==a then cN [a,b]else x::cN [a,b]:=by rw[cN]
  have e2:cN (x::a::[])=if x==a then cN [a]else x::cN [a]:=by rw[cN]
  rw[e1,e2,ih];by_cases h1:(x==a)=true<;>by_cases h2:(a==b)=true<;>simp[h1,h2]
 |x::y::p=>by
  have ih:=qY a b (y::p);simp only[List.cons_append]at ih⊢;have e1:cN (x::y::(p++[a,b]))=if x==y then cN (y::(p++[a,b]))else x::cN (y::(p++[a,b])):=by rw[cN]
  have e2:cN (x::y::(p++[a]))=if x==y then cN (y::(p++[a]))else x::cN (y::(p++[a])):=by rw[cN]
  rw[e1,e2,ih];by_cases h1:(x==y)=true<;>by_cases h2:(a==b)=true<;>simp[h1,h2]
theorem qZ {l:List aG}{j:Nat}(h0:1≤j)(h:j<l.length):cN (l.take (j+1))=if l[j]==l[j-1]then cN (l.take j)else cN (l.take j)++[l[j]]:=by
 have e1:l.take j=l.take (j-1)++[l[j-1]]:=by
  have:=List.take_succ_eq_append_getElem (show j-1<l.length by omega)
  rwa [show j-1+1=j by omega]at this
 rw[List.take_succ_eq_append_getElem h,e1,List.append_assoc];have:=qY l[j-1] l[j] (l.take (j-1));simp only[List.singleton_append];rw[this];have e2:(l[j-1]==l[j])=(l[j]==l[j-1]):=by rw[Bool.eq_iff_iff];simp only[beq_iff_eq];exact eq_comm
 rw[e2]
theorem wG : ∀{l:List aG},l.length<2→cN l=l
 |[],_=>rfl
 |[_],_=>rfl
 |_::_::_,h=>by simp at h;omega
variable {k:Nat}
theorem bA0 {l:List aG}(h0:1≤k)(h:k<l.length)(hne:(l[k]==l[k-1])=false)(hd:cN (l.take k)=l.take k):cN (l.take (k+1))=l.take (k+1):=by
 rw[qZ h0 h,hne,hd,List.take_succ_eq_append_getElem h];rfl
theorem bA1 {l:List aG}(h0:1≤k)(h:k<l.length)(he:(l[k]==l[k-1])=true):cN (l.take (k+1))=cN (l.take k):=by
 rw[qZ h0 h,he];rfl
theorem bM7 {l:List aG}(h0:1≤k)(h:k<l.length)(hne:(l[k]==l[k-1])=false):cN (l.take (k+1))=cN (l.take k)++[l[k]]:=by
 rw[qZ h0 h,hne];rfl
end Go.Pl
namespace Go.Hl
open Go Go.RowKit Go.Sort Go.Proofs
end Go.Hl
namespace Go.Pl
open Go Go.Hl
def rMid (r:Rt):Prop:=(r.q.length≤12∧ ∀q∈r.q,q.r.length≤300)∧(r.k.length≤32∧ ∀k∈r.k,k.o.length≤300∧k.rs.length≤30∧ ∀w∈k.rs,w.length≤300)∧r.x.length≤65
theorem rMid.sz {r:Rt}(h:rMid r):rSz r:=by
 obtain⟨⟨h1,h2⟩,⟨h3,h4⟩,h5⟩:=h;refine⟨⟨by omega,fun q hq=>by have:=h2 q hq;omega⟩,⟨by omega,fun k hk=>?_⟩,by omega⟩;obtain⟨k1,k2,k3⟩:=h4 k hk;exact⟨by omega,by omega,fun w hw=>by have:=k3 w hw;omega⟩
def aA9 (j:Nat):aG:=([[113,117,111,116,97],[107,101,121],[114,101,118,111,107,101,100]]:List aG).getD j []
def aK7 (j:Nat)(l:List aG)(x:Rt):Option Rt:=if j=0 then bY0 l x else if j=1 then cV3 l x else cV4 l x
def aB0 (j:Nat):List (List aG)→Rt→Option (List (List aG)×Rt)
 |[],x=>some ([],x)
 |l::ls,x=>if wd l 0=aA9 j then match aK7 j l x with|some y=>aB0 j ls y|none=>none else some (l::ls,x)
def pV :Nat→Nat→List (List aG)→Rt→Option (List (List aG)×Rt)
 |0,_,ls,x=>some (ls,x)
 |n+1,j,ls,x=>match aB0 j ls x with|some (ls',y)=>pV n (j+1) ls' y|none=>none
section
variable {l0:List aG}{ls:List (List aG)}{x:Rt}
end
variable {x:Rt}{ls:List (List aG)}{j:Nat}
theorem bY1 {l:List aG}{y:Rt}(h:wd l 0=aA9 j)(hy:aK7 j l x=some y):aB0 j (l::ls) x=aB0 j ls y:=by
 rw[aB0,if_pos h,hy]
theorem bM8 {l:List aG}(h:wd l 0=aA9 j)(hy:aK7 j l x=none):aB0 j (l::ls) x=none:=by
 rw[aB0,if_pos h,hy]
theorem bM9 {l:List aG}(h:wd l 0≠aA9 j):aB0 j (l::ls) x=some (l::ls,x):=by
 rw[aB0,if_neg h]
variable {n:Nat}
theorem bY2 {l:List aG}{y:Rt}(h:wd l 0=aA9 j)(hy:aK7 j l x=some y):pV (n+1) j (l::ls) x=pV (n+1) j ls y:=by grind[pV,bY1]
theorem bN0 {l:List aG}(h:wd l 0=aA9 j)(hy:aK7 j l x=none):pV (n+1) j (l::ls) x=none:=by grind[pV,bM8]
theorem bN1 {l:List aG}(h:wd l 0≠aA9 j):pV (n+1) j (l::ls) x=pV n (j+1) (l::ls) x:=by
 simp only[pV,bM9 h]
theorem bY3 :pV (n+1) j [] x=pV n (j+1) [] x:=by
 simp only[pV,aB0]
def wOk (l:List aG):Prop:=l≠[]∧l.length≤120∧ ∀w∈l,w.length≤32768
variable {l:List aG}
theorem wOk.wd (h:wOk l)(i:Nat):(wd l i).length≤32768:=by
 unfold Pl.wd;rw[List.getD_eq_getElem?_getD];rcases Nat.lt_or_ge i l.length with h'|h'
 · rw[List.getElem?_eq_getElem h'];exact h.2.2 _ (List.getElem_mem h')
 grind
def rRead (m:Nat)(x:Rt):Prop:=x.q.length+x.k.length+x.x.length≤m∧(∀q∈x.q,q.r.length≤32768)∧ ∀k∈x.k,k.o.length≤32768∧k.rs.length≤120∧ ∀w∈k.rs,w.length≤32768
variable {m:Nat}
theorem bN2 {y:Rt}(hl:wOk l)(h:aK7 j l x=some y)(hx:rRead m x):rRead (m+1) y:=by
 obtain⟨h1,h2,h3⟩:=hx;unfold aK7 at h;split at h
 ·
  unfold bY0 at h;split at h
  ·
   split at h
   ·
    cases h;refine⟨by grind,fun q hq=>?_,h3⟩;rcases List.mem_append.1 hq with hq|hq
    · grind
    · simp only[List.mem_singleton]at hq;subst hq;exact hl.wd 1
   grind
  grind
 ·
  split at h
  ·
   unfold cV3 at h;split at h
   · cases h
   ·
    split at h
    ·
     cases h;refine⟨by grind,h2,fun k hk=>?_⟩;rcases List.mem_append.1 hk with hk|hk
     · exact h3 k hk
     · simp only[List.mem_singleton]at hk;subst hk;exact⟨hl.wd 3,by show(l.drop 6).length≤120;rw[List.length_drop];have:=hl.2.1;omega,fun w hw=>hl.2.2 w (List.mem_of_mem_drop hw)⟩
    grind
  ·
   unfold cV4 at h;split at h
   ·
    split at h
    · cases h;exact⟨by grind,h2,h3⟩
    grind
   grind
theorem rRead.sz (h:rRead m x)(hm:m≤100000):rSz x:=by
 obtain⟨h1,h2,h3⟩:=h;refine⟨⟨by omega,fun q hq=>by grind⟩,⟨by omega,fun k hk=>?_⟩,by omega⟩;obtain⟨k1,k2,k3⟩:=h3 k hk;exact⟨by omega,by omega,fun w hw=>by grind⟩
def RtSt (ls0:List (List aG))(x0:Rt)(j:Nat)(rest:List (List aG))(x:Rt):Prop:=
 j≤3∧pV 3 0 ls0 x0=pV (3-j) j rest x∧(∀l∈rest,wOk l)∧rest.length≤ls0.length∧rRead (ls0.length-rest.length) x
section
variable {ls0 rest:List (List aG)}{x0 x:Rt}{j:Nat}{l:List aG}
theorem RtSt.init (h: ∀l∈ls0,wOk l)(hx:rRead 0 x0):RtSt ls0 x0 0 ls0 x0:=⟨by omega,rfl,h,Nat.le_refl _,by grind⟩
theorem RtSt.hit {y:Rt}(h:RtSt ls0 x0 j (l::rest) x)(hj:j<3)(hw:wd l 0=aA9 j)(hy:aK7 j l x=some y):RtSt ls0 x0 j rest y:=by
 obtain⟨h1,h2,h3,h4,h5⟩:=h;obtain⟨n,hn⟩: ∃n,3-j=n+1:=⟨2-j,by omega⟩;simp only[List.length_cons]at h4 h5;refine⟨h1,by rw[h2,hn,bY2 hw hy],fun l hl=>h3 l (List.mem_cons_of_mem _ hl),by omega,?_⟩;have:=bN2 (h3 l List.mem_cons_self) hy h5;grind
theorem RtSt.fail (h:RtSt ls0 x0 j (l::rest) x)(hj:j<3)(hw:wd l 0=aA9 j)(hy:aK7 j l x=none):pV 3 0 ls0 x0=none:=by
 obtain⟨n,hn⟩: ∃n,3-j=n+1:=⟨2-j,by omega⟩;rw[h.2.1,hn,bN0 hw hy]
theorem RtSt.next (h:RtSt ls0 x0 j rest x)(hj:j<3)(hw: ∀l ls,rest=l::ls→wd l 0≠aA9 j):RtSt ls0 x0 (j+1) rest x:=by
 obtain⟨h1,h2,h3,h4,h5⟩:=h;obtain⟨n,hn⟩: ∃n,3-j=n+1:=⟨2-j,by omega⟩;have hn2:3-(j+1)=n:=by omega
 refine⟨by omega,?_,h3,h4,h5⟩;rw[h2,hn,hn2];cases rest with
 |nil=>exact bY3
 |cons l ls=>exact bN1 (hw l ls rfl)
theorem RtSt.fin (h:RtSt ls0 x0 3 rest x):pV 3 0 ls0 x0=some (rest,x):=by rw[h.2.1];rfl
end
variable {b:aG}
theorem aK8 : ∀l∈gZ b,wOk l:=by
 intro l hl;unfold gZ at hl;split at hl
 ·
  cases hv:iX b with
  |none=>grind
  |some ls=>
   rw[hv]at hl;simp only[Option.getD_some]at hl;unfold iX at hv;split at hv
   · grind
   ·
    split at hv
    ·
     have key: ∀{rs:List aG} {ls:List (List aG)},rs.mapM unR=some ls→ ∀l∈ls,okL l=true:=by
      intro rs;induction rs with
      |nil=>grind
      |cons r rs ih=>
       intro ls h l hl;rw[List.mapM_cons]at h;cases hr:unR r with
       |none=>grind
       |some a=>
        rw[hr]at h;cases hm:rs.mapM unR with
        |none=>grind
        |some m=>
         rw[hm]at h;cases h;rcases List.mem_cons.1 hl with rfl|hl
         ·
          unfold unR at hr;split at hr
          ·
           split at hr
           · rename_i hk;cases hr;exact hk
           · cases hr
          · cases hr
         · exact ih hm l hl
     exact(jH l).1 (key hv l hl)
    grind
 grind
theorem yZ :(gZ b).length≤1000:=by
 unfold gZ;split
 · grind[eW,iX]
 · simp
theorem zA :yF=1099511627776:=rfl
theorem zB : ∀(a b:aG) (n m:Nat),fO a n=some m→fO (a++b) n=fO b m
 |[],b,n,m,h=>by simp only[fO,Option.some.injEq]at h;subst h;rfl
 |c::a,b,n,m,h=>by
  simp only[List.cons_append,fO]at h⊢;split at h
  · rename_i hc;rw[if_pos hc];exact zB a b _ _ h
  · cases h
theorem bF2 {k:Nat}(h:k<10):kZ (UInt8.ofNat (48+k))=true∧(UInt8.ofNat (48+k)).toNat-48=k:=by
 have e:(UInt8.ofNat (48+k)).toNat=48+k:=by simp;omega
 rw[kZ,e];exact⟨by simp;omega,by omega⟩
theorem bA2 (u:Nat):fO (Lib.decDigits u) 0=some u:=by
 induction u using Nat.strongRecOn with
 |ind u ih=>
  rw[Lib.decDigits];split
  · rename_i h;obtain⟨h1,h2⟩:=bF2 h;simp only[fO,h1,if_true,h2];simp
  · rw[zB _ _ 0 (u/10) (ih _ (by omega))];obtain⟨h1,h2⟩:=bF2 (k:=u%10) (by omega);simp only[fO,h1,if_true,h2];congr 1;omega
theorem bF3 : ∀(k u:Nat),u<10^(k+1)→(Lib.decDigits u).length≤k+1
 |0,u,h=>by rw[Lib.decDigits,dif_pos (by omega)];simp
 |k+1,u,h=>by
  rw[Lib.decDigits];split
  · simp
  · have:=bF3 k (u/10) (by rw[Nat.pow_succ]at h;omega);simp only[List.length_append,List.length_singleton];omega
theorem bY4 {u:Nat}(h:1≤u): ∃c l,Lib.decDigits u=c::l∧c≠48:=by
 induction u using Nat.strongRecOn with
 |ind u ih=>
  rw[Lib.decDigits];split
  · rename_i hu;refine⟨_,_,rfl,fun hc=>?_⟩;have:=congrArg UInt8.toNat hc;simp at this;omega
  · obtain⟨c,l,h1,h2⟩:=ih (u/10) (by omega) (by omega);exact⟨c,l++[UInt8.ofNat (48+u%10)],by rw[h1];rfl,h2⟩
theorem vC {n:Int}(h0:0≤n)(h1:n≤1099511627776):cP (fB n)=some n:=by
 rw[yX h0];have hd:=bA2 n.natAbs;have hl:=bF3 12 n.natAbs (by omega);have hb:fT (Lib.decDigits n.natAbs)=false:=by
  unfold fT;by_cases hz:n.natAbs=0
  · rw[hz,Lib.decDigits_one (by omega)];simp
  ·
   obtain⟨c,l,h2,h3⟩:=bY4 (u:=n.natAbs) (by omega);rw[h2]at hl⊢;have e:((c::l).getD 0 0==(48:UInt8))=false:=by simpa using h3
   rw[e,Bool.and_false,Bool.or_false,Bool.or_eq_false_iff];exact⟨by simp,decide_eq_false (by omega)⟩
 rw[aK3 hb hd (by omega)];congr 1;omega
theorem zC : ∀{k:Nat},k<16→valL (nJ k)=k:=by
 have: ∀k:Fin 16,valL (nJ k.1)=k.1:=by decide
 intro k h;exact this ⟨k,h⟩
theorem aF4 : ∀(bs:List UInt8) (i:Nat),(gR bs).getD (2*i) 0=(bs[i]?.map fun c=>nJ (c.toNat/16)).getD 0∧(gR bs).getD (2*i+1) 0=(bs[i]?.map fun c=>nJ (c.toNat%16)).getD 0
 |[],i=>by simp[gR]
 |c::bs,0=>by simp[gR,aZ4]
 |c::bs,i+1=>by
  have ih:=aF4 bs i;have e:gR (c::bs)=nJ (c.toNat/16)::nJ (c.toNat%16)::gR bs:=rfl;rw[e,show 2*(i+1)=2*i+1+1 from by omega];simpa using ih
theorem bA3 (bs:List UInt8):cW (gR bs) bs.length=some bs:=by
 have key: ∀i,(h:i<bs.length)→hX (gR bs) i=nJ (bs[i].toNat/16)∧hY (gR bs) i=nJ (bs[i].toNat%16):=fun i h=>by
  obtain⟨h1,h2⟩:=aF4 bs i;rw[List.getElem?_eq_getElem h]at h1 h2;exact⟨h1,h2⟩
 have v: ∀i,(h:i<bs.length)→valL (hX (gR bs) i)=bs[i].toNat/16∧valL (hY (gR bs) i)=bs[i].toNat%16:=fun i h=>by
  have:=bs[i].toNat_lt;rw[(key i h).1,(key i h).2];exact⟨zC (by omega),zC (by omega)⟩
 have hall:(List.range bs.length).all (hOk (gR bs))=true:=by
  rw[List.all_eq_true];intro i hi;have hi:=List.mem_range.1 hi;obtain⟨a,b⟩:=v i hi;have:=bs[i].toNat_lt;unfold hOk;rw[a,b];simp;omega
 unfold cW;rw[if_pos ⟨jN bs,hall⟩];congr 1;refine List.ext_getElem (by simp) fun i h1 h2=>?_;obtain⟨a,b⟩:=v i h2;simp only[List.getElem_map,List.getElem_range,hB,a,b];have:=bs[i].toNat_lt;refine UInt8.toNat_inj.1 ?_;rw[UInt8.toNat_ofNat'];omega
theorem tD (d:Dig):eK (jO d)=some d:=by
 obtain⟨l,hl⟩:=d;have:=bA3 l;rw[hl]at this;refine vB (l:=l) ?_ ?_ hl
 · simp[prefB,jO,shaW,jN]
 · simpa[jO]using this
theorem cH8 (h:kY ls=0):eW (sW ls)=0∧gZ (sW ls)=ls:=by
 rw[aK1 h];unfold kY at h;split at h
 · cases h
 ·
  rename_i h1;split at h
  · rename_i l hl;have:=List.find?_some hl;simp only[Bool.not_eq_true']at this;exact absurd h (bE4 this)
  ·
   rename_i hn;split at h
   · cases h
   ·
    rename_i h2;have hok: ∀l∈ls,okL l=true:=fun l hl=>by
     have:=List.find?_eq_none.1 hn l hl;simpa using this
    have hv:=bL7 hok;have hE:eW (gK ls)=0:=by unfold eW;rw[if_neg h2,hv];simp only;rw[if_neg h1]
    exact⟨hE,by unfold gZ;rw[if_pos hE,hv];rfl⟩
def tE (r:Pr):Bool:=gW r.a&&((aZ5 r.b).isSome&&((aZ5 r.c).isSome&&(inB r.g 0 yF&&eN r.t)))
def nF :List Pr→Bool
 |[]=>true
 |r::l=>!(l.map Pr.a).contains r.a&&nF l
def bY5 (p:Po):Bool:=gW p.n&&(inB p.v 1 yF&&(decide (p.r.length≤16)&&(p.r.all tE&&nF p.r)))
theorem wH (l:List Pr)(r:Pr):nF (l++[r])=(nF l&&!(l.map Pr.a).contains r.a):=by
 induction l with
 |nil=>simp[nF]
 |cons x l ih=>
  simp only[List.cons_append,nF,ih,List.map_append,List.map_cons,List.map_nil,List.contains_append,List.contains_cons,List.contains_nil,Bool.or_false];rw[show(x.a==r.a)=(r.a==x.a)from Bool.beq_comm];grind
def bN3 :aG:=[114,101,108,101,97,115,101,100]
def bY6 :aG:=[99,104,97,105,110,101,100]
def bN4 :aG:=[97,112,112,114,111,118,101,100]
def bY7 :aG:=[114,101,98,117,105,108,116]
def cH9 :aG:=[108,105,115,116,101,100]
def cQ2 :aG:=[99,108,101,97,110]
def cQ3 :aG:=[102,114,101,115,104]
def bY8 :aG:=[115,101,116,116,108,101,100]
def cY4 :aG:=[97,108,108]
def cY5 :aG:=[97,110,121]
def bY9 :aG:=[97,116,108,101,97,115,116]
def cQ4 :aG:=[101,110,100]
def cV5 :aG:=[114,117,108,101]
def cQ5 (w:List aG):Option Rq:=
 if w.length=2∧wd w 0=bN3 then(cP (wd w 1)).map (⟨1,·,0,[]⟩)
 else if w.length=2∧wd w 0=bY6 then some ⟨2,0,0,wd w 1⟩
 else if w.length=2∧wd w 0=bN4 then(cP (wd w 1)).map (⟨3,·,0,[]⟩)
 else if w.length=3∧wd w 0=bY7 then match cP (wd w 1),cP (wd w 2)with|some n,some m=>some ⟨4,n,m,[]⟩|_,_=>none
 else if w.length=2∧wd w 0=cH9 then(cP (wd w 1)).map (⟨5,·,0,[]⟩)
 else if w.length=2∧wd w 0=cQ2 then(cP (wd w 1)).map (⟨6,·,0,[]⟩)
 else if w.length=2∧wd w 0=cQ3 then(cP (wd w 1)).map (⟨7,·,0,[]⟩)
 else if w.length=1∧wd w 0=bY8 then some ⟨8,0,0,[]⟩else none
def cQ6 (w:List aG):Option Nd:=
 if w.length=1∧wd w 0=cY4 then some ⟨2,0,0,rq0⟩else if w.length=1∧wd w 0=cY5 then some ⟨3,0,0,rq0⟩
 else if w.length=2∧wd w 0=bY9 then(cP (wd w 1)).map (⟨4,·,0,rq0⟩)else none
def bZ0 (w:List aG):Bool:=w.length==1&&wd w 0==cQ4
mutual
def rdN :Nat→List (List aG)→Option (List Nd)×List (List aG)
 |0,ls=>(none,ls)
 |_+1,[]=>(none,[])
 |f+1,w::r=>match cQ5 w with
  |some q=>(some [⟨1,0,0,q⟩],r)
  |none=>match cQ6 w with
   |none=>(none,w::r)
   |some n=>match rdK f r with
    |(none,r')=>(none,r')
    |(some (ts,c),r')=>(some ({n with c:=c}::ts),r')
def rdK :Nat→List (List aG)→Option (List Nd×Int)×List (List aG)
 |0,ls=>(none,ls)
 |f+1,ls=>if bZ0 (ls.headD [])then(some ([],0),ls.tail)else match rdN f ls with
  |(none,r)=>(none,r)
  |(some t,r)=>match rdK f r with
   |(none,r')=>(none,r')
   |(some (ts,c),r')=>(some (t++ts,c+1),r')
end
def rdT (ls:List (List aG)):Option (List Nd)×List (List aG):=rdN (2*ls.length+2) ls
def rdR (ls:List (List aG)):Option Pr×List (List aG):=match ls with
 |[]=>(none,[])
 |w::r=>if w.length=5∧wd w 0=cV5 then match cP (wd w 4)with
   |none=>(none,w::r)
   |some g=>match rdT r with|(none,r')=>(none,r')|(some t,r')=>(some ⟨wd w 1,wd w 2,wd w 3,g,t⟩,r')
  else(none,w::r)
def cI0 :Nat→List (List aG)→List Pr→Option (List Pr)×List (List aG)
 |0,ls,_=>(none,ls)
 |f+1,ls,a=>if ls=[]then(some a,[])else match rdR ls with
  |(none,r)=>(none,r)
  |(some x,r)=>cI0 f r (a++[x])
theorem wI : ∀(t x r:List Nd) (m:Nat),skip m t=some r→skip m (t++x)=some (r++x)
 |t,x,r,0,h=>by grind[fR]
 |[],x,r,m+1,h=>by cases h
 |n::t,x,r,m+1,h=>by
  have h':skip (m+n.c.toNat) t=some r:=h;exact wI t x r _ h'
def wDer :aG:=[100,101,114,105,118,97,116,105,111,110]
def wOrg :aG:=[111,114,105,103,105,110]
def jW :aG:=[100,111,99]
def lF :aG:=[110,101,101,100]
def rA :aG:=[97,108,108]
def tF :aG:=[97,110,121]
def vD :aG:=[97,116,108,101,97,115,116]
def vE :aG:=[97,100,109,105,116]
def wordK (k:Int):aG:=if k=1 then lF else if k=2 then rA else if k=3 then tF else if k=4 then vD else if k=5 then vE else []
def gM (w:aG):Option Int:=if w=lF then some 1 else if w=rA then some 2 else if w=tF then some 3 else if w=vD then some 4 else if w=vE then some 5 else none
theorem nG {w:aG}{k:Int}:gM w=some k↔1≤k∧k≤5∧wordK k=w:=by
 unfold gM wordK;constructor
 · intro h;(repeat' split at h);all_goals first|(cases h;done)|(cases h;subst_vars;decide)
 ·
  rintro⟨h1,h2,h3⟩;obtain h|h|h|h|h:k=1∨k=2∨k=3∨k=4∨k=5:=by omega
  all_goals subst h;subst h3;decide
def eY (n:Int):Bool:=inB n 0 1099511627776
theorem iY (n:Int):eY n=true↔0≤n∧n≤1099511627776:=by simp[eY,inB]
def cU (x:Ln):Bool:=inB x.k 1 5&&eY x.n&&(if x.k=1 then x.f==[]else x.f.all eY&&x.d==[])
def firstL (x:Ln):List aG:=wordK x.k::fB x.n::x.f.map fB
def lW (d:Dig):List aG:=[jW,jO d]
def dV (x:Ln):List (List aG):=firstL x::x.d.map lW
def lG (d:Dv):List (List aG):=[[wDer,d.q.n,d.q.i,jO d.q.a,fB d.t,jO d.p,fB d.r],[wOrg,jO d.o.v,d.o.l,d.o.r]]
def iZ (d:Dv):List (List aG):=lG d++d.l.flatMap dV
def jQ (d:Dv):Bool:=eY d.t&&eY d.r&&d.l.all cU
def dvE (d:Dv):Int:=if jQ d then kY (iZ d)else 1
def dvO (d:Dv):aG:=if jQ d then sW (iZ d)else []
variable {d:Dv}
theorem bZ1 (h:dvE d=0):jQ d=true∧kY (iZ d)=0∧dvO d=sW (iZ d):=by
 unfold dvE at h;unfold dvO;split at h
 · rename_i hf;rw[if_pos hf];exact⟨hf,h,rfl⟩
 · cases h
def og0 :Og:=⟨zdg,[],[]⟩
def qs0 :Qs:=⟨[],[],zdg⟩
def dv0 :Dv:=⟨qs0,0,zdg,0,og0,[]⟩
def eS (l:List aG):Option (List Int):=l.mapM cP
def eX (w:List aG):Option Ln:=
 match eS (w.drop 1)with
 |some (n::f)=>(gM (wd w 0)).bind fun k=>if k=1∧f≠[]then none else some ⟨k,n,[],f⟩
 |_=>none
def jX (x:Ln)(d:Dig):Ln:={x with d:=x.d++[d]}
def lX (ls:List Ln)(w:List aG):Option (List Ln):=
 match ls.getLast? with
 |some x=>if x.k=1∧w.length=2 then(eK (wd w 1)).map fun d=>ls.dropLast++[jX x d]else none
 |none=>none
def dK (ls:List Ln)(w:List aG):Option (List Ln):=if wd w 0=jW then lX ls w else(eX w).map fun x=>ls++[x]
def wd' (ls:List (List aG))(i:Nat):List aG:=ls.getD i []
def gO (ls:List (List aG)):Option Dv:=
 if ls.length<2∨(wd' ls 0).length≠7∨wd (wd' ls 0) 0≠wDer∨(wd' ls 1).length≠4∨wd (wd' ls 1) 0≠wOrg then none
 else match eK (wd (wd' ls 0) 3),eK (wd (wd' ls 0) 5),eK (wd (wd' ls 1) 1),cP (wd (wd' ls 0) 4),cP (wd (wd' ls 0) 6)with
  |some a,some p,some v,some t,some r=>some ⟨⟨wd (wd' ls 0) 1,wd (wd' ls 0) 2,a⟩,t,p,r,⟨v,wd (wd' ls 1) 2,wd (wd' ls 1) 3⟩,[]⟩
  |_,_,_,_,_=>none
def fQ (ls:List (List aG)):Option Dv:=(gO ls).bind fun d=>((ls.drop 2).foldlM dK []).map fun l=>{d with l:=l}
def gA (b:aG):Option Dv:=if eW b=0 then(fQ (gZ b)).bind fun d=>if dvE d=0∧dvO d=b then some d else none else none
def ddE (b:aG):Int:=if eW b≠0 then eW b else if(gA b).isSome then 0 else 2
def ddO (b:aG):Dv:=(gA b).getD dv0
theorem aF5 : ∀{l:List Int},l.all eY=true→eS (l.map fB)=some l
 |[],_=>rfl
 |n::l,h=>by
  simp only[List.all_cons,Bool.and_eq_true]at h;have h1:=(iY n).1 h.1;have h2:=aF5 h.2;unfold eS at h2⊢;rw[List.map_cons,List.mapM_cons,vC h1.1 h1.2,h2];rfl
theorem aS2 {x:Ln}(h:cU x=true):eX (firstL x)=some {x with d:=[]}∧wd (firstL x) 0≠jW:=by
 simp only[cU,Bool.and_eq_true,inB,decide_eq_true_eq]at h;obtain⟨⟨⟨h1,h2⟩,h3⟩,h4⟩:=h;have hk:gM (wordK x.k)=some x.k:=nG.2 ⟨h1,h2,rfl⟩;have hn:((x.n::x.f).all eY)=true:=by
  rw[List.all_cons,h3,Bool.true_and];split at h4
  · rw[beq_iff_eq]at h4;rw[h4];rfl
  · simp only[Bool.and_eq_true]at h4;exact h4.1
 have hm:=aF5 hn;constructor
 · have e:(firstL x).drop 1=(x.n::x.f).map fB:=rfl;unfold eX;rw[e,hm];show(gM (wordK x.k)).bind _=_;rw[hk];simp only[Option.bind_some];rw[if_neg ?_];rintro⟨g1,g2⟩;rw[if_pos g1,beq_iff_eq]at h4;exact g2 h4
 ·
  show wordK x.k≠jW;obtain h|h|h|h|h:x.k=1∨x.k=2∨x.k=3∨x.k=4∨x.k=5:=by omega
  all_goals rw[h];decide
theorem aF6 (ls:List Ln): ∀(ds:List Dig) (x:Ln),x.k=1→(ds.map lW).foldlM dK (ls++[x])=some (ls++[{x with d:=x.d++ds}])
 |[],x,_=>by simp
 |d::ds,x,hk=>by
  have e:dK (ls++[x]) (lW d)=some (ls++[jX x d]):=by
   unfold dK;rw[if_pos (show wd (lW d) 0=jW from rfl)];unfold lX;rw[List.getLast?_concat];simp only[lW,List.length_cons,List.length_nil,hk];rw[if_pos (by simp)];show(eK (jO d)).map _=_;rw[tD,List.dropLast_concat];rfl
  rw[List.map_cons,List.foldlM_cons,e];show(ds.map lW).foldlM dK (ls++[jX x d])=_;rw[aF6 ls ds (jX x d) hk];simp[jX]
theorem aS3 (ls:List Ln){x:Ln}(h:cU x=true):(dV x).foldlM dK ls=some (ls++[x]):=by
 obtain⟨h1,h2⟩:=aS2 h;have e:dK ls (firstL x)=some (ls++[{x with d:=[]}]):=by unfold dK;rw[if_neg h2,h1];rfl
 rw[dV,List.foldlM_cons,e];show(x.d.map lW).foldlM dK (ls++[{x with d:=[]}])=_;by_cases hk:x.k=1
 · rw[aF6 ls x.d {x with d:=[]} hk];simp
 ·
  have hd:x.d=[]:=by
   simp only[cU,Bool.and_eq_true]at h;have h4:=h.2;rw[if_neg hk]at h4;simp only[Bool.and_eq_true,beq_iff_eq]at h4;exact h4.2
  rw[hd];cases x;subst hd;rfl
theorem aF7 : ∀{l:List Ln} (ls:List Ln),l.all cU=true→(l.flatMap dV).foldlM dK ls=some (ls++l)
 |[],ls,_=>by simp
 |x::l,ls,h=>by
  simp only[List.all_cons,Bool.and_eq_true]at h;rw[List.flatMap_cons,List.foldlM_append,aS3 ls h.1];show(l.flatMap dV).foldlM dK (ls++[x])=_;rw[aF7 _ h.2];simp
theorem bZ2 (h:jQ d=true):fQ (iZ d)=some d:=by
 simp only[jQ,Bool.and_eq_true]at h;have h1:=(iY _).1 h.1.1;have h2:=(iY _).1 h.1.2;have hh:gO (iZ d)=some {d with l:=[]}:=by
  unfold gO;have e0:wd' (iZ d) 0=[wDer,d.q.n,d.q.i,jO d.q.a,fB d.t,jO d.p,fB d.r]:=rfl;have e1:wd' (iZ d) 1=[wOrg,jO d.o.v,d.o.l,d.o.r]:=rfl;rw[e0,e1,if_neg]
  ·
   show(match eK (jO d.q.a),eK (jO d.p),eK (jO d.o.v),cP (fB d.t),cP (fB d.r)with
    |some a,some p,some v,some t,some r=>some (⟨⟨d.q.n,d.q.i,a⟩,t,p,r,⟨v,d.o.l,d.o.r⟩,[]⟩:Dv)
    |_,_,_,_,_=>none)=_
   rw[tD,tD,tD,vC h1.1 h1.2,vC h2.1 h2.2]
  · simp only[iZ,lG,List.length_append,List.length_cons,List.length_nil,wd,List.getD_cons_zero,ne_eq,not_true_eq_false,or_false];omega
 unfold fQ;rw[hh,Option.bind_some];have e2:(iZ d).drop 2=d.l.flatMap dV:=rfl;rw[e2,aF7 [] h.2];simp
theorem aS4 (h:dvE d=0)(hb:dvO d=b):gA b=some d∧ddE b=0∧ddO b=d:=by
 obtain⟨h1,h2,h3⟩:=bZ1 h;obtain⟨e1,e2⟩:=cH8 h2;have hb2:b=sW (iZ d):=by rw[←hb,h3]
 have e:gA b=some d:=by
  unfold gA;rw[hb2,if_pos e1,e2,bZ2 h1,Option.bind_some,if_pos ⟨h,h3⟩]
 exact⟨e,by rw[ddE,e,hb2,e1];rfl,by rw[ddO,e];rfl⟩
def jA (w:List aG):Option Ln:=
 match eS (w.drop 1)with
 |some (n::f)=>(gM (wd w 0)).map fun k=>⟨k,n,[],f⟩
 |_=>none
def iA (ls:List Ln)(w:List aG):Option (List Ln):=if wd w 0=jW then lX ls w else(jA w).map fun x=>ls++[x]
def headF (ls:List (List aG)):Dv:=⟨⟨wd (wd' ls 0) 1,wd (wd' ls 0) 2,(eK (wd (wd' ls 0) 3)).getD zdg⟩,(cP (wd (wd' ls 0) 4)).getD 0,(eK (wd (wd' ls 0) 5)).getD zdg,(cP (wd (wd' ls 0) 6)).getD 0,⟨(eK (wd (wd' ls 1) 1)).getD zdg,wd (wd' ls 1) 2,wd (wd' ls 1) 3⟩,[]⟩
def tG (ls:List (List aG)):Option Dv:=if ls.length<2∨(wd' ls 0).length≠7∨(wd' ls 1).length≠4 then none else((ls.drop 2).foldlM iA []).map fun l=>{headF ls with l:=l}
variable {w:List aG}
theorem cI1 {x:Ln}(h:eX w=some x):jA w=some x:=by
 unfold eX at h;unfold jA;split at h
 ·
  cases hk:gM (wd w 0)with
  |none=>rw[hk]at h;cases h
  |some k=>
   rw[hk]at h;simp only[Option.bind_some]at h;split at h
   · cases h
   · simpa using h
 · cases h
theorem cI2 {ls ls':List Ln}(h:dK ls w=some ls'):iA ls w=some ls':=by
 unfold dK at h;unfold iA;split at h
 · rename_i hw;rw[if_pos hw];exact h
 ·
  rename_i hw;rw[if_neg hw];cases hx:eX w with
  |none=>rw[hx]at h;cases h
  |some x=>rw[hx]at h;rw[cI1 hx];exact h
theorem bF4 : ∀{ws:List (List aG)} {ls ls':List Ln},ws.foldlM dK ls=some ls'→ws.foldlM iA ls=some ls'
 |[],ls,ls',h=>h
 |w::ws,ls,ls',h=>by
  rw[List.foldlM_cons]at h⊢;cases hx:dK ls w with
  |none=>rw[hx]at h;cases h
  |some x=>rw[hx]at h;rw[cI2 hx];exact bF4 h
theorem cI3 (h:fQ ls=some d):tG ls=some d:=by
 unfold fQ at h;unfold tG;cases hh:gO ls with
 |none=>rw[hh]at h;cases h
 |some x=>
  rw[hh,Option.bind_some]at h;unfold gO at hh;split at hh
  · cases hh
  ·
   rename_i hc;rw[if_neg (by grind)];split at hh
   ·
    rename_i h1 h2 h3 h4 h5;cases hh;cases hf:(ls.drop 2).foldlM dK []with
    |none=>rw[hf]at h;cases h
    |some l=>
     rw[hf]at h;rw[bF4 hf];simp only[Option.map_some]at h⊢;rw[←h,headF,h1,h2,h3,h4,h5];rfl
   · cases hh
def ddF (b:aG):Option Dv:=if eW b=0 then(tG (gZ b)).bind fun d=>if dvE d=0∧dvO d=b then some d else none else none
theorem cQ7 (b:aG):ddF b=gA b:=by
 cases h:gA b with
 |some d=>
  unfold gA at h;unfold ddF;split at h
  ·
   rename_i he;rw[if_pos he];cases hr:fQ (gZ b)with
   |none=>rw[hr]at h;cases h
   |some x=>rw[hr]at h;rw[cI3 hr];exact h
  · cases h
 |none=>
  cases hF:ddF b with
  |none=>rfl
  |some d=>
   have:dvE d=0∧dvO d=b:=by
    unfold ddF at hF;split at hF
    ·
     cases hr:tG (gZ b)with
     |none=>rw[hr]at hF;cases hF
     |some x=>
      rw[hr,Option.bind_some]at hF;split at hF
      · rename_i hx;cases hF;exact hx
      · cases hF
    · cases hF
   rw[(aS4 this.1 this.2).1]at h;cases h
def RunD (f:List Ln→List aG→Option (List Ln))(ws:List (List aG))(i:Nat)(st:List Ln):Prop:=(ws.take i).foldlM f []=some st
variable {ws:List (List aG)}{f:List Ln→List aG→Option (List Ln)}
theorem RunD.init :RunD f ws 0 []:=rfl
variable {st:List Ln}{i:Nat}
theorem RunD.next {st':List Ln}(h:RunD f ws i st)(hi:i<ws.length)(hs:f st ws[i]=some st'):RunD f ws (i+1) st':=by
 unfold RunD at h⊢;rw[List.take_succ_eq_append_getElem hi,List.foldlM_append,h];show [ws[i]].foldlM f st=_;rw[List.foldlM_cons,hs];rfl
theorem RunD.bad (h:RunD f ws i st)(hi:i<ws.length)(hs:f st ws[i]=none):ws.foldlM f []=none:=by
 unfold RunD at h;rw[←List.take_append_drop i ws,List.foldlM_append,h,List.drop_eq_getElem_cons hi];show(ws[i]::ws.drop (i+1)).foldlM f st=_;rw[List.foldlM_cons,hs];rfl
theorem RunD.fin (h:RunD f ws ws.length st):ws.foldlM f []=some st:=by
 unfold RunD at h
 rwa [List.take_length]at h
end Go.Pl
namespace Go.Proofs.YthedbjfipmkpiaaGreatDoor
open Go Go.Hl Go.Pl Go.RowKit Go.Shelf
set_option maxRecDepth 100000
def cI4 :Go.Shelf.Ren:=⟨fun|173=>81|246=>110|283=>135|284=>136|285=>137|286=>138|129=>121|317=>161|318=>162|319=>163|320=>164|337=>174|338=>175|n=>n,fun|2=>2|3=>3|9=>9|4=>4|171=>180|0=>0|53=>135|37=>52|5=>5|173=>182|212=>199|51=>168|20=>20|213=>200|46=>72|232=>43|233=>213|n=>n,fun|17=>1|18=>4|19=>5|n=>n⟩
theorem cQ8 :Go.Proofs.LaysM.n173 Tryz.prog cI4:={
  mixed:=by kernel_rfl
  f129:=Tryz.func121.trans (congrArg some (by kernel_rfl))
  f173:=Tryz.func81.trans (congrArg some (by kernel_rfl))
  f246:=Tryz.func110.trans (congrArg some (by kernel_rfl))
  f283:=Tryz.func135.trans (congrArg some (by kernel_rfl))
  f284:=Tryz.func136.trans (congrArg some (by kernel_rfl))
  f285:=Tryz.func137.trans (congrArg some (by kernel_rfl))
  f286:=Tryz.func138.trans (congrArg some (by kernel_rfl))
  f317:=Tryz.func161.trans (congrArg some (by kernel_rfl))
  f318:=Tryz.func162.trans (congrArg some (by kernel_rfl))
  f319:=Tryz.func163.trans (congrArg some (by kernel_rfl))
  f320:=Tryz.func164.trans (congrArg some (by kernel_rfl))
  f337:=Tryz.func174.trans (congrArg some (by kernel_rfl))
  f338:=Tryz.func175.trans (congrArg some (by kernel_rfl))
  t0:=Tryz.underlying0
  a0:=Tryz.isAgg0
  z0:=Tryz.sizeOf0
  v0:=Tryz.zeroValue0
  t2:=Tryz.underlying2
  a2:=Tryz.isAgg2
  z2:=Tryz.sizeOf2
  v2:=Tryz.zeroValue2
  t3:=Tryz.underlying3
  a3:=Tryz.isAgg3
  z3:=Tryz.sizeOf3
  v3:=Tryz.zeroValue3
  t4:=Tryz.underlying4
  a4:=Tryz.isAgg4
  z4:=Tryz.sizeOf4
  v4:=Tryz.zeroValue4
  t5:=Tryz.underlying5
  a5:=Tryz.isAgg5
  z5:=Tryz.sizeOf5
  v5:=Tryz.zeroValue5
  t9:=Tryz.underlying9
  a9:=Tryz.isAgg9
  z9:=Tryz.sizeOf9
  v9:=Tryz.zeroValue9
  t20:=Tryz.underlying20
  a20:=Tryz.isAgg20
  z20:=Tryz.sizeOf20
  v20:=Tryz.zeroValue20
  t37:=Tryz.underlying52
  a37:=Tryz.isAgg52
  z37:=Tryz.sizeOf52
  v37:=Tryz.zeroValue52
  t46:=Tryz.underlying72
  a46:=Tryz.isAgg72
  z46:=Tryz.sizeOf72
  v46:=Tryz.zeroValue72
  t51:=Tryz.underlying168
  a51:=Tryz.isAgg168
  z51:=Tryz.sizeOf168
  v51:=Tryz.zeroValue168
  t53:=Tryz.underlying135
  a53:=Tryz.isAgg135
  z53:=Tryz.sizeOf135
  v53:=Tryz.zeroValue135
  t171:=Tryz.underlying180
  a171:=Tryz.isAgg180
  z171:=Tryz.sizeOf180
  v171:=Tryz.zeroValue180
  t173:=Tryz.underlying182
  a173:=Tryz.isAgg182
  z173:=Tryz.sizeOf182
  v173:=Tryz.zeroValue182
  t212:=Tryz.underlying199
  a212:=Tryz.isAgg199
  z212:=Tryz.sizeOf199
  v212:=Tryz.zeroValue199
  t213:=Tryz.underlying200
  a213:=Tryz.isAgg200
  z213:=Tryz.sizeOf200
  t232:=Tryz.underlying43
  a232:=Tryz.isAgg43
  z232:=Tryz.sizeOf43
  v232:=Tryz.zeroValue43
  t233:=Tryz.underlying213
  a233:=Tryz.isAgg213
  z233:=Tryz.sizeOf213
  v233:=Tryz.zeroValue213
  g17:=by kernel_rfl
  g18:=by kernel_rfl
  g19:=by kernel_rfl
  i0:=by kernel_rfl
  i2:=by kernel_rfl
  i3:=by kernel_rfl
  i4:=by kernel_rfl
  i5:=by kernel_rfl
  i9:=by kernel_rfl
  i20:=by kernel_rfl
  i37:=by kernel_rfl
  i46:=by kernel_rfl
  i51:=by kernel_rfl
  i53:=by kernel_rfl
  i171:=by kernel_rfl
  i173:=by kernel_rfl
  i212:=by kernel_rfl
  i232:=by kernel_rfl
  i233:=by kernel_rfl
  m17:=by kernel_rfl
  m18:=by kernel_rfl
  m19:=by kernel_rfl}
theorem aK9 :Tryz.prog.globalNamed "internal/strconv.uint64pow10" =some 1:=by kernel_rfl
def tabs :oG:=[(1,Lib.pow10Tab.map fun z=>Value.int .u64 z)]
theorem bN5 (n:Int)(h: -9223372036854775808≤n∧n≤9223372036854775807):oH Tryz.prog 81 tabs [.int .i64 n,.int .i64 10] (fun v=>v= .str (fB n)):=
  aZ0 (by kernel_rfl) aK9 (List.mem_cons_self) (fun w hw=>Any.strconv_FormatInt_10 cQ8 n h.1 h.2 w hw)
end Go.Proofs.YthedbjfipmkpiaaGreatDoor
