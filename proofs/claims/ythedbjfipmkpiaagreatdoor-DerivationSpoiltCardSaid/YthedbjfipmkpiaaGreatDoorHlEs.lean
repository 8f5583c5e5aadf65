/- HL, part Es: maps by number and text: their entries, and what is found in them. By an AI agent. -/
import Derived.Maps.RangeRun
import Derived.Test.YthedbjfipmkpiaaGreatDoorHlL
set_option linter.unusedSimpArgs false
set_option linter.unusedVariables false
set_option linter.defProp false
namespace Go.Hl
open Go
def HV.ids :HV→List Nat
 | .own id _| .ptr id _| .eptr id _ _ _ _| .osl id _ _ _ _| .mapr id| .mrow id _ _=>[id]
 |_=>[]
def touch (o:Op)(e:Operand→HV):List Nat:=
 match o with
 | .load _ x| .fieldAddr _ x _| .nilCheck x=>(e x).ids
 | .indexAddr _ x _=>(e x).ids
 | .slice _ x _ _ _=>(e x).ids
 | .lookup _ x _ _| .mapUpdate _ x _ _=>(e x).ids
 | .store _ x _=>(e x).ids
 | .call c=>match c.callee with
  | .builtin _=>c.args.toList.flatMap fun x=>(e x).ids
  |_=>[]
 |_=>[]
def isEff :Op→Bool
 | .store _ _ _| .mapUpdate _ _ _ _=>true
 | .call c=>match c.callee with
  | .builtin .len| .builtin .max| .builtin .min=>false
  |_=>true
 |_=>false
def bU :Op→Bool
 | .store _ _ _| .alloc _| .box _ _| .buildSlice _ _ _| .mapUpdate _ _ _ _| .makeMap _ _| .makeSlice _ _ _=>false
 | .call c=>match c.callee with
  | .builtin .len| .builtin .max| .builtin .min=>true
  |_=>false
 |_=>true
def app (u:Option (Nat×HO))(ob:Ob):Ob:=match u with|some p=>upd ob p.1 (some p.2)|none=>ob
variable {K:HV→Prop}{ob ob':Ob}{a:HV}
theorem aX4 {ti:TyI}(I: ∀id∈a.ids,ob' id=ob id)(h:hload ti a ob K):hload ti a ob' K:=by
 cases a with
 |ptr id off=>
  grind[HV.ids,hload]
 |eptr id n i sz off=>
  grind[HV.ids,hload]
 |c v=>cases v<;>simp only[hload]at h⊢ <;>exact h
 |_=>simp only[hload]at h
variable {t:TypeId}{P:Program}
theorem wP {f:Nat}(I: ∀id∈a.ids,ob' id=ob id)(h:hfieldAddr P t a f ob K):hfieldAddr P t a f ob' K:=by
 unfold hfieldAddr hfield at h⊢;cases J:aP P t with
 |none=>simp_all
 |some ti=>
  rw[J]at h;simp only[hlift_some]at h⊢;split at h
  ·
   rename_i fs U;cases hf:fs[f]? with
   |none=>simp_all
   |some p=>
    rw[hf]at h;simp only[hlift_some]at h⊢;cases aa:aP P p.2 with
    |none=>simp_all
    |some tf=>
     grind[hlift_some,id,HV.ids]
  grind
theorem wQ {i:HV}(aa: ∀id∈a.ids,ob' id=ob id)(h:hindexAddr P t a i ob K):hindexAddr P t a i ob' K:=by
 unfold hindexAddr at h⊢;cases ht:aP P t with
 |none=>simp_all
 |some ti=>
  rw[ht]at h;simp only[hlift_some]at h⊢;split at h
  ·
   rename_i e k n J;cases I:aP P e with
   |none=>simp_all
   |some U=>
    grind[hlift_some,id,HV.ids]
  ·
   rename_i m e k n J;cases I:aP P e with
   |none=>simp_all
   |some U=>
    grind[hlift_some,id,HV.ids]
  grind
theorem gG (I: ∀id∈a.ids,ob' id=ob id):hread a ob'=hread a ob:=by
 cases a with
 |own id m=>grind[hread,HV.ids]
 |osl id m lo sz hi=>grind[hread,HV.ids]
 |c v=>cases v<;>rfl
 |_=>rfl
theorem bG7 (I: ∀id∈a.ids,ob' id=ob id)(h:live a ob):live a ob':=by
 cases a with
 |ptr id o=>grind[live,HV.ids]
 |eptr id n i sz o=>grind[live,HV.ids]
 |c v=>cases v<;>exact h
 |_=>exact h
theorem aK5 {nid:Nat}{o:Op}{e:Operand→HV}{K:HV→Ob→Prop}(h:hop P nid o e ob K):
  ∃v u,K v (app u ob)∧(∀ob':Ob,(∀id∈touch o e,ob' id=ob id)→ ∀K':HV→Ob→Prop,K' v (app u ob')→hop P nid o e ob' K')∧(∀p,u=some p→p.1=nid∨(isEff o=true∧p.1∈touch o e))∧(bU o=true→u=none):=by
 unfold hop at h;split at h
 · exact⟨_,none,h.2,fun ob' _ K' hK=>⟨h.1,hK⟩,by simp,fun _=>rfl⟩
 · exact⟨_,none,h.2,fun ob' _ K' hK=>⟨h.1,hK⟩,by simp,fun _=>rfl⟩
 ·
  unfold hpick at h;split at h
  · rename_i t hc;exact⟨_,none,h.2,fun ob' _ K' hK=>(by simp only[hop,hpick,hc];exact⟨h.1,hK⟩),by simp,fun _=>rfl⟩
  grind
 · rw[aD]at h;obtain⟨ti,ht,hK⟩:=h;exact⟨_,some (nid,_),hK,fun ob' _ K' hK=>(by simp only[hop,ht,hlift_some];exact hK),by simp,by grind[bU]⟩
 · exact⟨_,some (nid,_),h.2,fun ob' _ K' hK=>(by simp only[hop];exact⟨h.1,hK⟩),by simp,by grind[bU]⟩
 ·
  rw[aD]at h;obtain⟨ti,ht,h⟩:=h;unfold iU at h;split at h
  · rename_i zs hz;rw[aD]at h;obtain⟨hs,hf,hK⟩:=h;exact⟨_,none,hK,fun ob' _ K' hK=>(by simp only[hop,ht,hlift_some,iU,hz,hf];exact hK),by simp,fun _=>rfl⟩
  grind
 ·
  rw[aD]at h;obtain⟨ti,ht,h⟩:=h;split at h
  · rename_i el bj;rw[aD]at h;obtain⟨te,ad,h⟩:=h;rw[aD]at h;obtain⟨l,bk,h1,hK⟩:=h;exact⟨_,some (nid,_),hK,fun ob' _ K' hK=>(by simp only[hop,ht,hlift_some,bj,ad,bk];exact⟨h1,hK⟩),by simp,by grind[bU]⟩
  grind
 ·
  rename_i t x;rw[aD]at h;obtain⟨ti,ht,h⟩:=h;have key: ∀K:HV→Prop,hload ti (e x) ob K→ ∃v,K v∧ ∀K':HV→Prop,K' v→hload ti (e x) ob K':=by
   intro K h;unfold hload at h;split at h
   · grind[aD,hload,hlift_some]
   · grind[id,aD,hload,hlift_some]
   · grind[id,aD,hload,hlift_some]
   · grind
  obtain⟨v,hK,hv⟩:=key _ h;exact⟨v,none,hK,fun ob' ab K' I=>(by simp only[hop,ht,hlift_some];exact aX4 ab (hv _ I)),by simp,fun _=>rfl⟩
 ·
  rename_i t x y;rw[aD]at h;obtain⟨ti,ht,h⟩:=h;unfold hstore at h;split at h
  ·
   rename_i id off hx;split at h
   ·
    rename_i T u ho;obtain⟨h1,h⟩:=h;rw[aD]at h;obtain⟨u',hu,hK⟩:=h;refine⟨_,some (id,_),hK,fun ob' ab K' I=>?_,fun p hp=>?_,by simp[bU]⟩
    · have:=ab id (by simp[touch,hx,HV.ids]);simp only[hop,ht,hlift_some,hstore,hx,this,ho,hu];exact⟨h1,I⟩
    · cases hp;exact .inr ⟨rfl,by simp[touch,hx,HV.ids]⟩
   grind
  ·
   rename_i id n i sz off hx;split at h
   ·
    rename_i T bf l ho;obtain⟨h1,h⟩:=h;rw[aD]at h;obtain⟨u',hu,h⟩:=h;rw[aD]at h;obtain⟨cu,bm,hK⟩:=h;refine⟨_,some (id,_),hK,fun ob' ab K' I=>?_,fun p hp=>?_,by simp[bU]⟩
    · have:=ab id (by simp[touch,hx,HV.ids]);simp only[hop,ht,hlift_some,hstore,hx,this,ho,hu,bm];exact⟨h1,I⟩
    · cases hp;exact .inr ⟨rfl,by simp[touch,hx,HV.ids]⟩
   grind
  grind
 · exact⟨_,none,h.2,fun ob' ab K' hK=>⟨bG7 ab h.1,hK⟩,by simp,fun _=>rfl⟩
 ·
  rename_i op t x y yt;have key: ∀K:CV→Prop,kK P op t (e x) (e y) K→ ∃u,K u∧ ∀K':CV→Prop,K' u→kK P op t (e x) (e y) K':=by
   intro K h;unfold kK at h;split at h
   ·
    rename_i k1 i1 k2 i2 hx hy;by_cases hs:isShift op=true
    · rw[B1 hs]at h;cases op<;>simp[isShift]at hs<;>simp only[hshift]at h;all_goals exact⟨_,h.2,fun K' I=>by simp only[kK,hx,hy,isShift,G4,hshift];exact⟨h.1,I⟩⟩
    · rw[A7 hs]at h;cases op<;>simp[isShift]at hs<;>simp only[hint]at h;all_goals grind[kK,isShift,hint]
   · rename_i s1 s2 hx hy;cases op<;>simp only[hstr]at h;all_goals grind[kK,hstr]
   · grind[aD,kK,hlift_some]
   · grind[kK]
   · grind
  obtain⟨u,hK,hu⟩:=key _ h;exact⟨.c u,none,hK,fun ob' _ K' I=>(by simp only[hop];exact hu _ I),by simp,fun _=>rfl⟩
 ·
  rename_i op t x;unfold hun at h;split at h
  · rename_i b hx;exact⟨_,none,h,fun ob' _ K' I=>(by simp only[hop,hun,hx];exact I),by simp,fun _=>rfl⟩
  · rename_i k n hx;exact⟨_,none,h,fun ob' _ K' I=>(by simp only[hop,hun,hx];exact I),by simp,fun _=>rfl⟩
  · rename_i k n hx;exact⟨_,none,h,fun ob' _ K' I=>(by simp only[hop,hun,hx];exact I),by simp,fun _=>rfl⟩
  all_goals grind
 ·
  rename_i sr ds x;unfold hconv at h;rw[aD]at h;obtain⟨ts,au,h⟩:=h;rw[aD]at h;obtain⟨td,ba,h⟩:=h;split at h
  · rename_i k k' n J hx;exact⟨_,none,h,fun ob' _ K' I=>(by simp only[hop,hconv,au,ba,hlift_some,J,hx];exact I),by simp,fun _=>rfl⟩
  · rename_i s J hx;exact⟨_,none,h,fun ob' _ K' I=>(by simp only[hop,hconv,au,ba,hlift_some,J,hx];exact I),by simp,fun _=>rfl⟩
  · rename_i el l J aj hx;rw[aD]at h;obtain⟨te,ad,h8,h⟩:=h;rw[aD]at h;obtain⟨bs,bg,h⟩:=h;exact⟨_,none,h,fun ob' _ K' I=>(by simp only[hop,hconv,au,ba,hlift_some,J,aj,hx,ad,bg];exact⟨h8,I⟩),by simp,fun _=>rfl⟩
  grind
 ·
  rename_i f first caps
  obtain⟨hf,h⟩:=h;unfold hclo at h;split at h
  · rename_i hc;exact⟨_,none,h,fun ob' _ K' I=>(by simp only[hop,hclo,hc];exact⟨hf,I⟩),by simp,fun _=>rfl⟩
  ·
   rename_i bu;refine⟨_,none,h.2,fun ob' _ K' I=>?_,by simp,fun _=>rfl⟩;simp only[hop];refine⟨hf,?_⟩;unfold hclo;split
   · grind
   · exact⟨h.1,I⟩
 ·
  rename_i t x lo hi;by_cases bc: ∃id n,e x= .own id n
  ·
   obtain⟨id,n,hx⟩:=bc;simp only[hslice2,hx]at h;rw[aD]at h;obtain⟨ti,ht,h⟩:=h;split at h
   · rename_i el e' sz l J ho;rw[aD]at h;obtain⟨te,ad,h1,h⟩:=h;rw[aD]at h;obtain⟨u1,ay,h⟩:=h;rw[aD]at h;obtain⟨u2,ar,h2,hK⟩:=h;refine⟨_,none,hK,fun ob' ab K' I=>?_,by simp,fun _=>rfl⟩;have af:ob' id=ob id:=ab id (by simp[touch,hx,HV.ids]);simp only[hop,hslice2,hx,ht,hlift_some,J,af,ho,ad];refine⟨h1,?_⟩;rw[ay];simp only[hlift_some];rw[ar];exact⟨h2,I⟩
   grind
  by_cases bb: ∃id off,e x= .ptr id off
  ·
   obtain⟨id,off,hx⟩:=bb;simp only[hslice2,hx]at h;rw[aD]at h;obtain⟨ti,ht,h⟩:=h;split at h
   · rename_i m el T v J ho;rw[aD]at h;obtain⟨te,ad,h1,h⟩:=h;rw[aD]at h;obtain⟨u1,ay,h⟩:=h;rw[aD]at h;obtain⟨u2,ar,h2,hK⟩:=h;refine⟨_,none,hK,fun ob' ab K' I=>?_,by simp,fun _=>rfl⟩;have af:ob' id=ob id:=ab id (by simp[touch,hx,HV.ids]);simp only[hop,hslice2,hx,ht,hlift_some,J,af,ho,ad];refine⟨h1,?_⟩;rw[ay];simp only[hlift_some];rw[ar];exact⟨h2,I⟩
   grind
  have e2: ∀(ob':Ob) (K':HV→Prop),hslice2 P t (e x) (lo.map e) (hi.map e) ob' K'=hslice P t (e x) (lo.map e) (hi.map e) K':=fun ob' K'=>by simp_all[hslice2,id,absurd]
  rw[e2]at h;have key: ∀K:HV→Prop,hslice P t (e x) (lo.map e) (hi.map e) K→ ∃u,K u∧ ∀K':HV→Prop,K' u→hslice P t (e x) (lo.map e) (hi.map e) K':=by
   intro K h;unfold hslice at h;rw[aD]at h;obtain⟨ti,ht,h⟩:=h;simp only at h;split at h
   · rename_i s J hx;rw[aD]at h;obtain⟨l,hl,h⟩:=h;rw[aD]at h;obtain⟨hh,bd,hb,hK⟩:=h;exact⟨_,hK,fun K' I=>by simp_all[hslice,hlift_some]⟩
   · rename_i el s J hx;rw[aD]at h;obtain⟨te,ad,hc,h⟩:=h;rw[aD]at h;obtain⟨l,hl,h⟩:=h;rw[aD]at h;obtain⟨hh,bd,hb,hK⟩:=h;exact⟨_,hK,fun K' I=>by simp_all[hslice,hlift_some]⟩
   · rename_i el J hx;rw[aD]at h;obtain⟨te,ad,h⟩:=h;rw[aD]at h;obtain⟨l,hl,h⟩:=h;rw[aD]at h;grind[hslice,hlift_some]
   · rename_i m el s J hx;rw[aD]at h;obtain⟨te,ad,hc,h⟩:=h;rw[aD]at h;obtain⟨l,hl,h⟩:=h;rw[aD]at h;obtain⟨hh,bd,hb,hK⟩:=h;exact⟨_,hK,fun K' I=>by simp_all[hslice,hlift_some]⟩
   · grind
  obtain⟨u,hK,hu⟩:=key _ h;exact⟨u,none,hK,fun ob' _ K' I=>(by simp only[hop,e2];exact hu _ I),by simp,fun _=>rfl⟩
 ·
  rename_i t x lo hi mx;have key: ∀K:HV→Prop,hslice3 P t (e x) (lo.map e) (e hi) (e mx) K→ ∃u,K u∧ ∀K':HV→Prop,K' u→hslice3 P t (e x) (lo.map e) (e hi) (e mx) K':=by
   intro K h;unfold hslice3 at h;rw[aD]at h;obtain⟨ti,ht,h⟩:=h;split at h
   · rename_i el s kh hh km m J hx bp ca;rw[aD]at h;obtain⟨te,ad,hc,h⟩:=h;rw[aD]at h;grind[hslice3,hlift_some]
   · grind
  obtain⟨u,hK,hu⟩:=key _ h;exact⟨u,none,hK,fun ob' _ K' I=>(by simp only[hop];exact hu _ I),by simp,fun _=>rfl⟩
 ·
  rename_i t;unfold hmakeMap at h;rw[aD]at h;obtain⟨ti,ht,h⟩:=h;split at h
  ·
   rename_i kt et J;rw[aD]at h;obtain⟨te,ad,h⟩:=h;split at h
   · rename_i el aj;rw[aD]at h;obtain⟨t2,bl,hK⟩:=h;exact⟨_,some (nid,_),hK,fun ob' _ K' I=>(by simp only[hop,hmakeMap,ht,hlift_some,J,ad,aj,bl];exact I),by simp,by simp[bU]⟩
   · rename_i aj;refine⟨_,some (nid,_),h,fun ob' _ K' I=>?_,by simp,by simp[bU]⟩;simp only[hop,hmakeMap,ht,hlift_some,J,ad];exact I
  grind
 ·
  rename_i t m k;unfold hlookup at h;rw[aD]at h;obtain⟨ti,ht,h⟩:=h;split at h
  ·
   rename_i kt et J;rw[aD]at h;obtain⟨tk,az,h⟩:=h;rw[aD]at h;obtain⟨te,ad,h⟩:=h;split at h
   ·
    rename_i id s aw hm hk;obtain⟨hs,h⟩:=h;split at h
    ·
     rename_i e' sz D ho;have go: ∀ob':Ob,ob' id=ob id→ ∀K':HV→Prop,hlookup P t (e m) (e k) ob' K'=(s.length≤maxLen∧match te.d,te.z with
       | .slice _,.nils=>aA6 (dM D s)=true∧K' (.mrow id s (iB (dM D s)).length)
       |_,_=>sT (dM D s)=true∧K' (.c (bN3 te.z (dM D s)))):=fun ob' bq K'=>by grind[hlookup,hlift_some]
     split at h
     · rename_i ak ax;refine⟨_,none,h.2,fun ob' ab K' I=>?_,by simp,fun _=>rfl⟩;simp only[hop];rw[go ob' (ab id (by simp[touch,hm,HV.ids])),ak,ax];exact⟨hs,h.1,I⟩
     ·
      rename_i bo;refine⟨_,none,h.2,fun ob' ab K' I=>?_,by simp,fun _=>rfl⟩;simp only[hop];rw[go ob' (ab id (by simp[touch,hm,HV.ids]))];refine⟨hs,?_⟩;split
      · rename_i el ak ax;exact absurd ax (bo el ak)
      · exact⟨h.1,I⟩
    grind
   grind
  grind
 ·
  rename_i t m k v;unfold hmapUpdate at h;rw[aD]at h;obtain⟨ti,ht,h⟩:=h;split at h
  ·
   rename_i kt et J;rw[aD]at h;obtain⟨tk,az,h⟩:=h;rw[aD]at h;obtain⟨te,ad,h⟩:=h;split at h
   ·
    rename_i id s aw hm hk;obtain⟨hs,h⟩:=h;split at h
    ·
     rename_i e' sz D ho;split at h
     ·
      rename_i el bx s2 n ak hv;refine⟨_,some (id,_),h.2,fun ob' ab K' I=>?_,fun p hp=>?_,by simp[bU]⟩
      · have af:=ab id (by simp[touch,hm,HV.ids]);simp only[hop,hmapUpdate,ht,hlift_some,J,az,ad,aw,hm,hk,af,ho,ak,hv];exact⟨hs,h.1,I⟩
      · cases hp;exact .inr ⟨rfl,by simp[touch,hm,HV.ids]⟩
     ·
      rename_i cv _ _ hv;refine⟨_,some (id,_),h.2,fun ob' ab K' I=>?_,fun p hp=>?_,by simp[bU]⟩
      · have af:=ab id (by simp[touch,hm,HV.ids]);simp only[hop,hmapUpdate,ht,hlift_some,J,az,ad,aw,hm,hk,af,ho,hv];exact⟨hs,h.1,I⟩
      · cases hp;exact .inr ⟨rfl,by simp[touch,hm,HV.ids]⟩
     · exact h.elim
    grind
   grind
  grind
 ·
  rename_i t x f;have key: ∀K:HV→Prop,hfieldAddr P t (e x) f ob K→ ∃u,K u∧ ∀K':HV→Prop,K' u→hfieldAddr P t (e x) f ob K':=by
   intro K h;unfold hfieldAddr hfield at h;rw[aD]at h;obtain⟨ti,ht,h⟩:=h;split at h
   ·
    rename_i fs br;rw[aD]at h;obtain⟨p,hp,h⟩:=h;rw[aD]at h;obtain⟨tf,bt,h⟩:=h;split at h
    · rename_i v hx;rw[aD]at h;obtain⟨u,hu,hK⟩:=h;exact⟨_,hK,fun K' I=>by grind[hfieldAddr,hfield,hlift_some]⟩
    all_goals grind[id,hfieldAddr,hfield,hlift_some]
   · grind
  obtain⟨u,hK,hu⟩:=key _ h;exact⟨u,none,hK,fun ob' ab K' I=>(by simp only[hop];exact wP ab (hu _ I)),by simp,fun _=>rfl⟩
 ·
  rename_i t x f;obtain⟨h1,h⟩:=h;have key: ∀G:Nat→TyI→Prop,hfield P t f G→ ∃off tf,G off tf∧ ∀G':Nat→TyI→Prop,G' off tf→hfield P t f G':=by
   intro G h;unfold hfield at h;rw[aD]at h;obtain⟨ti,ht,h⟩:=h;split at h
   · grind[aD,hfield,hlift_some]
   · grind
  obtain⟨off,tf,hG,bn⟩:=key _ h;rw[aD]at hG;obtain⟨v,hv,hK⟩:=hG;exact⟨v,none,hK,fun ob' _ K' I=>(by simp only[hop];exact⟨h1,bn _ (by rw[hv];exact I)⟩),by simp,fun _=>rfl⟩
 ·
  rename_i t x i;have key: ∀K:HV→Prop,hindexAddr P t (e x) (e i) ob K→ ∃u,K u∧ ∀K':HV→Prop,K' u→hindexAddr P t (e x) (e i) ob K':=by
   intro K h;unfold hindexAddr at h;rw[aD]at h;obtain⟨ti,ht,h⟩:=h;split at h
   ·
    rename_i el k n J hi;rw[aD]at h;obtain⟨te,ad,h⟩:=h;split at h
    · grind[hindexAddr,hlift_some]
    · grind[id,hindexAddr,hlift_some]
    · rename_i id m lo sz bz hx;split at h;all_goals grind[hindexAddr,hlift_some]
    grind
   ·
    rename_i m el k n J hi;rw[aD]at h;obtain⟨te,ad,h0,h⟩:=h;split at h
    · grind[id,hindexAddr,hlift_some]
    all_goals grind[id,hindexAddr,hlift_some,aD]
   · grind
  obtain⟨u,hK,hu⟩:=key _ h;exact⟨u,none,hK,fun ob' ab K' I=>(by simp only[hop];exact wQ ab (hu _ I)),by simp,fun _=>rfl⟩
 ·
  rename_i t x i;unfold hindex at h;rw[aD]at h;obtain⟨ti,ht,h⟩:=h;split at h
  · rename_i s k n J hx hi;exact⟨_,none,h.2,fun ob' _ K' I=>(by simp only[hop,hindex,ht,hlift_some,J,hx,hi];exact⟨h.1,I⟩),by simp,fun _=>rfl⟩
  · rename_i m el k n J hi;rw[aD]at h;obtain⟨te,ad,h1,h⟩:=h;rw[aD]at h;obtain⟨u,hu,hK⟩:=h;exact⟨_,none,hK,fun ob' _ K' I=>(by simp only[hop,hindex,ht,hlift_some,J,hi,ad,hu];exact⟨h1,I⟩),by simp,fun _=>rfl⟩
  grind
 ·
  rename_i x i;unfold hext at h;split at h
  · rename_i l hx;rw[aD]at h;obtain⟨v,hv,hj,hK⟩:=h;exact⟨_,none,hK,fun ob' _ K' I=>(by simp only[hop,hext,hx,hv,hlift_some];exact⟨hj,I⟩),by simp,fun _=>rfl⟩
  grind
 ·
  rename_i cl;split at h
  ·
   rename_i x t U aa ag;rw[aD]at h;obtain⟨ti,ht,h⟩:=h;split at h
   · rename_i J;rw[aD]at h;obtain⟨n,hn,hK⟩:=h;exact⟨_,none,hK,fun ob' _ K' I=>(by simp only[hop,U,aa,ag,ht,hlift_some,J];rw[hn];exact I),by simp,fun _=>rfl⟩
   · rename_i el J;rw[aD]at h;obtain⟨l,hl,hK⟩:=h;refine⟨_,none,hK,fun ob' ab K' I=>?_,by simp,fun _=>rfl⟩;simp only[hop,U,aa,ag,ht,hlift_some,J];rw[gG (fun id hid=>ab id (by grind[touch])),hl];exact I
   · rename_i n el J;exact⟨_,none,h,fun ob' _ K' I=>(by simp only[hop,U,aa,ag,ht,hlift_some,J];exact I),by simp,fun _=>rfl⟩
   grind
  ·
   rename_i s x t t' U aa ag;by_cases ai:t'=t
   case neg=>
    rw[A7 ai]at h;have ae:touch (.call cl) e=(e s).ids++(e x).ids:=by simp only[touch,U,aa,G3,I9,J7]
    unfold happends at h;rw[aD]at h;obtain⟨ti,ht,h⟩:=h;rw[aD]at h;obtain⟨tu,bh,h⟩:=h;split at h
    ·
     rename_i el bs J aj hx;rw[aD]at h;obtain⟨te,ad,ah,h⟩:=h;split at h
     ·
      rename_i id n hs;split at h
      ·
       rename_i e' sz l ho;refine⟨_,some (id,_),h.2.2.2,fun ob' ab K' I=>?_,fun p hp=>?_,by simp[bU,U]⟩
       · have af:=ab id (by rw[ae,hs];simp[HV.ids]);simp only[hop,U,aa,ag];rw[A7 ai];simp only[happends,ht,bh,hlift_some,J,aj,hx,ad,hs,af,ho];exact⟨ah,h.1,h.2.1,h.2.2.1,I⟩
       · cases hp;exact .inr ⟨by simp only[isEff,U],by grind[HV.ids]⟩
      · exact h.elim
     · exact h.elim
    grind
   rw[B1 ai]at h;unfold happend2 at h;split at h
   ·
    rename_i id k n hs;rw[aD]at h;obtain⟨ti,ht,h⟩:=h;have ae:touch (.call cl) e=(e s).ids++(e x).ids:=by simp only[touch,U,aa,G3,I9,J7]
    split at h
    ·
     rename_i el J;rw[aD]at h;obtain⟨te,ad,h⟩:=h;rw[aD]at h;obtain⟨l2,an,ah,h⟩:=h;split at h
     ·
      rename_i e' sz D ho;refine⟨_,some (id,_),h.2.2.2,fun ob' ab K' I=>?_,fun p hp=>?_,by simp[bU,U]⟩
      · simp only[hop,U,aa,ag,happend2,hs,ht,hlift_some,J,ad];rw[B1 ai];rw[gG (fun i hi=>ab i (by rw[ae];exact L3 _ hi)),an];simp only[hlift_some];rw[ab id (by grind[HV.ids]),ho];exact⟨ah,h.1,h.2.1,h.2.2.1,I⟩
      · cases hp;exact .inr ⟨by simp only[isEff,U],by grind[HV.ids]⟩
     · exact h.elim
    grind
   rename_i cb;have e2: ∀(ob':Ob) (K':HV→Ob→Prop),happend2 P t (e s) (e x) nid ob' K'=happend P t (e s) (e x) nid ob' K':=fun ob' K'=>by grind[happend2,id,absurd]
   unfold happend at h;rw[aD]at h;obtain⟨ti,ht,h⟩:=h;have ae:touch (.call cl) e=(e s).ids++(e x).ids:=by simp only[touch,U,aa,G3,I9,J7]
   split at h
   ·
    rename_i el J;rw[aD]at h;obtain⟨te,ad,h⟩:=h;rw[aD]at h;obtain⟨l2,an,ah,h⟩:=h;split at h
    ·
     rename_i id n hs;split at h
     ·
      rename_i e' sz l ho;refine⟨_,some (id,_),h.2.2.2,fun ob' ab K' I=>?_,fun p hp=>?_,by simp[bU,U]⟩
      · simp only[hop,U,aa,ag,e2,happend,ht,hlift_some,J,ad];rw[B1 ai];rw[gG (fun i hi=>ab i (by rw[ae];exact L3 _ hi)),an];simp only[hlift_some,hs];rw[ab id (by rw[ae,hs];simp[HV.ids]),ho];exact⟨ah,h.1,h.2.1,h.2.2.1,I⟩
      · cases hp;exact .inr ⟨by simp only[isEff,U],by grind[HV.ids]⟩
     · exact h.elim
    · rename_i hs;refine⟨_,some (nid,_),h.2.2,fun ob' ab K' I=>?_,by simp,by grind[bU]⟩;simp only[hop,U,aa,ag,e2,happend,ht,hlift_some,J,ad];rw[B1 ai];rw[gG (fun i hi=>ab i (by grind)),an];simp only[hlift_some,hs];exact⟨ah,h.1,h.2.1,I⟩
    · exact h.elim
   grind
  ·
   rename_i x y t1 t2 U aa ag;unfold hmax at h;split at h
   · rename_i k i1 k' i2 hx hy;exact⟨_,none,h.2,fun ob' _ K' I=>(by simp only[hop,U,aa,ag,hmax,hx,hy];exact⟨h.1,I⟩),by simp,fun _=>rfl⟩
   grind
  ·
   rename_i x y t1 t2 U aa ag;unfold hmax at h;split at h
   · rename_i k i1 k' i2 hx hy;exact⟨_,none,h.2,fun ob' _ K' I=>(by simp only[hop,U,aa,ag,hmax,hx,hy];exact⟨h.1,I⟩),by simp,fun _=>rfl⟩
   grind
  ·
   rename_i x t U aa ag;have ae:touch (.call cl) e=(e x).ids:=by simp only[touch,U,aa,G3,I9,J7]
   unfold hclear at h;rw[aD]at h;obtain⟨ti,ht,h⟩:=h;split at h
   ·
    rename_i el id n lo sz hi J hx;rw[aD]at h;obtain⟨te,ad,h⟩:=h;split at h
    ·
     rename_i e' bf l ho;refine⟨_,some (id,_),h.2,fun ob' ab K' I=>?_,fun p hp=>?_,by simp[bU,U]⟩
     · have af:=ab id (by grind[HV.ids]);simp only[hop,U,aa,ag,hclear,ht,hlift_some,J,hx,ad,af,ho];exact⟨h.1,I⟩
     · cases hp;exact .inr ⟨by simp only[isEff,U],by grind[HV.ids]⟩
    · exact h.elim
   grind
  ·
   rename_i x y t t' U aa ag;have ae:touch (.call cl) e=(e x).ids++(e y).ids:=by simp only[touch,U,aa,G3,I9,J7]
   unfold hcopy at h;rw[aD]at h;obtain⟨ti,ht,h⟩:=h;split at h
   ·
    rename_i el id n lo sz hi J hx;rw[aD]at h;obtain⟨te,ad,h⟩:=h;split at h
    ·
     rename_i T l ho;rw[aD]at h;obtain⟨u,hu,h⟩:=h;refine⟨_,some (id,_),h.2,fun ob' ab K' I=>?_,fun p hp=>?_,by simp[bU,U]⟩
     · have af:=ab id (by grind[HV.ids]);simp only[hop,U,aa,ag,hcopy,ht,hlift_some,J,hx,ad,af,ho];rw[gG (fun i hi=>ab i (by rw[ae];exact L3 _ hi)),hu];simp only[hlift_some];exact⟨h.1,I⟩
     · cases hp;exact .inr ⟨by simp only[isEff,U],by grind[HV.ids]⟩
    · exact h.elim
   grind
  grind
 ·
  rename_i t x;unfold hmkIface at h;rw[aD]at h;obtain⟨ti,ht,h⟩:=h;split at h
  · rename_i v hx;exact⟨_,none,h.2,fun ob' _ K' I=>(by simp only[hop,hmkIface,ht,hlift_some,hx];exact⟨h.1,I⟩),by simp,fun _=>rfl⟩
  grind
 ·
  rename_i x s t;unfold hassert at h;rw[aD]at h;obtain⟨ti,ht,h⟩:=h;split at h
  · rename_i t' v hx;exact⟨_,none,h.2,fun ob' _ K' I=>(by simp only[hop,hassert,ht,hlift_some,hx];exact⟨h.1,I⟩),by simp,fun _=>rfl⟩
  grind
 ·
  rename_i t len cap;unfold hmakeSlice at h;rw[aD]at h;obtain⟨ti,ht,h⟩:=h;split at h
  ·
   rename_i el k1 l k2 m J hlen aq;rw[aD]at h;obtain⟨te,ad,h⟩:=h;by_cases ao:l=0
   · rw[B1 ao]at h;exact⟨_,some (nid,_),h.2,fun ob' _ K' I=>(by simp only[hop,hmakeSlice,ht,hlift_some,J,hlen,aq,ad];rw[B1 ao];exact⟨h.1,I⟩),by simp,by simp[bU]⟩
   · rw[A7 ao]at h;exact⟨_,some (nid,_),h.2,fun ob' _ K' I=>(by simp only[hop,hmakeSlice,ht,hlift_some,J,hlen,aq,ad];rw[A7 ao];exact⟨h.1,I⟩),by simp,by simp[bU]⟩
  grind
 grind
/- References that are closed: a slice of one's own that nobody will write any more. -/
mutual
def HV.close (ob:Ob)(cl:List Nat):HV→HV
 | .c v=> .c v.denil
 | .own id n=>if cl.contains id=true then(match ob id with
  |some (.row _ _ l)=>if n=l.length then .c (.slc l)else .own id n
  |_=> .own id n)else .own id n
 | .osl id n lo sz hi=>if cl.contains id=true then(match ob id with
  |some (.row _ sz' l)=>if n=l.length∧0<n∧sz=sz'∧lo≤hi∧hi≤n then .c (.slc ((l.drop lo).take (hi-lo)))else .osl id n lo sz hi
  |_=> .osl id n lo sz hi)else .osl id n lo sz hi
 | .agg l=> .agg (HV.closeL ob cl l)
 | .tup l=> .tup (HV.closeL ob cl l)
 |v=>v
def HV.closeL (ob:Ob)(cl:List Nat):List HV→List HV
 |[]=>[]
 |v::vs=>(v.close ob cl).norm::HV.closeL ob cl vs
end
section
variable {P:Program}{w:World}{ρ ρ2:Env}{X:Nat→Prop}{ob:Ob}{cl:List Nat}
theorem HV.close_agg (v:HV):(v.close ob cl).isAgg=v.isAgg:=by
 cases v with
 |c v=>simp only[HV.close,HV.isAgg,CV.denil_isAgg]
 |own id n=>
  simp only[HV.close];split
  ·
   split
   · split<;>rfl
   · rfl
  · rfl
 |osl id n lo sz hi=>
  simp only[HV.close];split
  ·
   split
   · split<;>rfl
   · rfl
  · rfl
 |_=>simp only[HV.close,HV.isAgg]
theorem nD : ∀l:List HV,(HV.closeL ob cl l).length=l.length
 |[]=>rfl
 |v::vs=>by simp only[HV.closeL,A8,nD vs]
mutual
theorem mS : ∀v:HV,(v.close ob cl).cells=v.cells∧(v.sto=true→(v.close ob cl).sto=true)
 | .junk=>by simp[HV.close]
 | .c v=>by simp[HV.close,HV.cells,HV.sto,CV.denil_cells]
 | .agg l=>by simp only[HV.close,HV.cells,HV.sto];exact oL l
 | .own id n=>by grind[HV.close,HV.cells,CV.cells,HV.sto]
 | .ptr .. =>by simp[HV.close]
 | .eptr .. =>by simp[HV.close]
 | .osl id n lo sz hi=>by grind[HV.close,HV.cells,CV.cells,HV.sto]
 | .mapr .. =>by simp[HV.close]
 | .mrow .. =>by simp[HV.close]
 | .clo .. =>by simp[HV.close]
 | .opq _=>by simp[HV.close]
 | .tup _=>by simp[HV.close,HV.cells,HV.sto]
theorem oL : ∀l:List HV,HV.cellsL (HV.closeL ob cl l)=HV.cellsL l∧(HV.stoL l=true→HV.stoL (HV.closeL ob cl l)=true)
 |[]=>by simp[HV.closeL]
 |v::vs=>by
  simp only[HV.closeL,HV.cellsL,HV.stoL,HV.norm_cells,mS v,oL vs,B3,Q9];exact fun h=>⟨HV.norm_sto ((mS v).2 h.1),(oL vs).2 h.2⟩
end
theorem sU {sz:Nat}: ∀l:List HV,(∀v∈l,v.cells=sz∧v.sto=true)→ ∀v∈HV.closeL ob cl l,v.cells=sz∧v.sto=true
 |[],_=>by simp[HV.closeL]
 |v::vs,h=>by
  simp only[HV.closeL,BE]at h⊢;exact⟨⟨by grind[HV.norm_cells,mS],HV.norm_sto ((mS v).2 h.1.2)⟩,sU vs h.2⟩
theorem bT7 (hS:RepS w ρ X ob)(ag: ∀id∈cl,ρ2 id=none)(hρ: ∀id L,ρ2 id=some L→ρ id=some L)(aa:Stay w (Owned ρ X) w (Owned ρ2 X)){id n:Nat}{cs:List Value}
  (h:RepH w ρ (Owned ρ X) (.own id n) cs):RepH w ρ2 (Owned ρ2 X) ((HV.own id n).close ob cl) cs:=by
 have ah:RepH w ρ2 (Owned ρ2 X) (.own id n) cs:=by
  simp only[RepH]at h⊢;obtain⟨x,h1,h2,h3⟩:=h;exact⟨x,h1,h2,fun hd hh=>h3 hd (hρ _ _ hh)⟩
 simp only[HV.close];split
 ·
  rename_i af;split
  ·
   rename_i e sz l ho;split
   ·
    rename_i hn;simp only[RepH,RepC]at h⊢;obtain⟨x,rfl,h2,h3⟩:=h;obtain⟨hd,xs,I,hl,ae,how⟩:=hS.objs id _ ho;obtain⟨e1,e2⟩:=h3 hd I;have J:id∈cl:=by simpa using af
    rcases how.2 with⟨rfl,hz⟩|⟨g,cap,cur,rfl,aj,hg,U,_⟩
    · have hx:=e2 (by simp[hlen,hn,hz]);exact⟨none,0,xs,sz,by rw[hx,hz],hl.stay aa,ae,by omega,fun _=>rfl,fun ad ab=>(by grind)⟩
    ·
     have hx:=e2 (by simp[hlen,hn]);refine⟨some ⟨g,0,none⟩,cap,xs,sz,by rw[hx],hl.stay aa,ae,U,fun hh=>(by grind),fun ad ab=>?_⟩;cases ab;refine⟨how.cells (g:=g) rfl,fun _=>?_⟩;rintro(ai|⟨id',L,h4,h5⟩)
     · exact hS.xb id _ g I rfl ai
     · have:=hS.apart id' id L _ g (hρ _ _ h4) I h5 rfl;subst this;rw[ag id' J]at h4;cases h4
   grind
  grind
 grind
theorem bT8 (hS:RepS w ρ X ob)(ao: ∀id∈cl,ρ2 id=none)(hρ: ∀id L,ρ2 id=some L→ρ id=some L)(ai:Stay w (Owned ρ X) w (Owned ρ2 X)){id n lo sz hi:Nat}{cs:List Value}
  (h:RepH w ρ (Owned ρ X) (.osl id n lo sz hi) cs):RepH w ρ2 (Owned ρ2 X) ((HV.osl id n lo sz hi).close ob cl) cs:=by
 have ah:RepH w ρ2 (Owned ρ2 X) (.osl id n lo sz hi) cs:=by
  simp only[RepH]at h⊢;obtain⟨x,h1,h2,h3,h4⟩:=h;exact⟨x,h1,h2,fun hd hh=>h3 hd (hρ _ _ hh),fun b hh=>h4 b (hρ _ _ hh)⟩
 simp only[HV.close];split
 ·
  rename_i ak;split
  ·
   rename_i e au l ho;split
   ·
    rename_i hc;obtain⟨hn,aw,rfl,hlo,ar⟩:=hc;simp only[RepH,RepC]at h⊢;obtain⟨x,rfl,h2,h3,_⟩:=h;obtain⟨hd,xs,J,hl,ab,how⟩:=hS.objs id _ ho;obtain⟨e1,e2⟩:=h3 hd J;have ae:id∈cl:=by simpa using ak
    rcases how.2 with⟨rfl,hz⟩|⟨g,cap,cur,rfl,ax,hg,aq,_⟩
    · omega
    ·
     have hx:=e2 (by simp[hlen,hn]) g cap (by rw[hn]);have aa:((l.drop lo).take (hi-lo)).length=hi-lo:=by simp;omega
     refine⟨_,cap-lo,(xs.drop (lo*sz)).take ((hi-lo)*sz),sz,by rw[hx,aa],(gK _ (jI _ hl ab) (fun v hv=>ab v (H8 hv))).stay ai,fun v hv=>ab v (H8 (J3 hv)),by omega,fun hh=>(by cases hh),fun ad aj=>?_⟩;cases aj;have U:=how.cells (g:=g) rfl;refine⟨fun j u hj=>?_,fun _=>?_⟩
     ·
      by_cases ag:cap=lo
      ·
       have:hi-lo=0:=by omega
       rw[this]at hj;simp at hj
      ·
       rw[A7 ag];have I:=hj;rw[M3]at I;split at I
       ·
        rw[S1]at I;have:=U _ _ I;by_cases af:j=0
        ·
         subst af;by_cases hz:lo*sz=0
         · simpa[Addr.add,hz]using this
         · simpa[Addr.add,hz]using this
        · simpa[Addr.add,af,V6,CN]using this
       · cases I
     ·
      rintro(an|⟨id',L,h4,h5⟩)
      · exact hS.xb id _ g J rfl an
      · have:=hS.apart id' id L _ g (hρ _ _ h4) J h5 rfl;subst this;rw[ao id' ae]at h4;cases h4
   grind
  grind
 grind
mutual
theorem kO (hS:RepS w ρ X ob)(J: ∀id∈cl,ρ2 id=none)(U: ∀id L,ρ2 id=some L→ρ id=some L)(I:Stay w (Owned ρ X) w (Owned ρ2 X)): ∀{v:HV} {cs:List Value},RepH w ρ (Owned ρ X) v cs→RepH w ρ2 (Owned ρ2 X) (v.close ob cl) cs
 | .c v,cs,h=>by simp only[RepH,HV.close]at h⊢;exact CV.denil_rep (h.stay I)
 | .own id n,cs,h=>bT7 hS J U I h
 | .agg l,cs,h=>by simp only[RepH,HV.close]at h⊢;exact oM hS J U I h
 | .tup l,cs,h=>by
  simp only[RepH,HV.close]at h⊢;obtain⟨xs,h1,h2⟩:=h;exact⟨xs,h1,aB2 hS J U I h2⟩
 | .junk,cs,h=>by simp only[RepH]at h
 | .ptr id off,cs,h=>by grind[RepH,HV.close]
 | .eptr id n i sz off,cs,h=>by grind[RepH,HV.close]
 | .osl ..,cs,h=>bT8 hS J U I h
 | .mapr id,cs,h=>by grind[RepH,HV.close]
 | .mrow id k n,cs,h=>by grind[RepH,HV.close]
 | .opq _,cs,h=>by grind[RepH,HV.close]
 | .clo f caps,cs,h=>by
  simp only[RepH,HV.close]at h⊢;obtain⟨xs,h1,h2⟩:=h;exact⟨xs,h1,RepHV.stay (M:=fun _=>True) I (fun id L _ hL=>⟨L,U _ _ hL,.inl rfl⟩) (HV.menL_true _) h2⟩
theorem oM (hS:RepS w ρ X ob)(I: ∀id∈cl,ρ2 id=none)(U: ∀id L,ρ2 id=some L→ρ id=some L)(J:Stay w (Owned ρ X) w (Owned ρ2 X)): ∀{l:List HV} {cs:List Value},RepHL w ρ (Owned ρ X) l cs→RepHL w ρ2 (Owned ρ2 X) (HV.closeL ob cl l) cs
 |[],cs,h=>by grind[RepHL,HV.closeL]
 |v::vs,cs,h=>by
  simp only[RepHL,HV.closeL]at h⊢;obtain⟨c1,c2,h1,h2,h3⟩:=h;exact⟨c1,c2,h1,HV.norm_rep (kO hS I U J h2),oM hS I U J h3⟩
theorem aB2 (hS:RepS w ρ X ob)(I: ∀id∈cl,ρ2 id=none)(U: ∀id L,ρ2 id=some L→ρ id=some L)(J:Stay w (Owned ρ X) w (Owned ρ2 X)): ∀{l:List HV} {xs:List Value},RepHV w ρ (Owned ρ X) l xs→RepHV w ρ2 (Owned ρ2 X) (HV.closeL ob cl l) xs
 |[],xs,h=>by grind[RepHV,HV.closeL]
 |v::vs,xs,h=>by
  simp only[RepHV,HV.closeL]at h⊢;obtain⟨y,ys,h1,⟨h2,aa⟩,h3⟩:=h;exact⟨y,ys,h1,⟨HV.norm_rep (kO hS I U J h2),by grind[HV.norm_agg,HV.close_agg]⟩,aB2 hS I U J h3⟩
end
end
def esL :Nat→List (Int×List UInt8)→List MapEntry
 |_,[]=>[]
 |b,(z,s)::l=>⟨.int .i64 z,.string ⟨s.toArray⟩,b⟩::esL (b+1) l
def jK (l:List (Int×List UInt8)):Array MapEntry:=(esL 0 l).toArray
theorem bG8 (b:Nat)(l m:List (Int×List UInt8)):esL b (l++m)=esL b l++esL (b+l.length) m:=by
 induction l generalizing b with
 |nil=>rfl
 |cons x l I=>simp only[J4,esL,I,A8];congr 3;omega
theorem bT9 (l:List (Int×List UInt8))(z:Int)(s:List UInt8):(jK l).push ⟨.int .i64 z,.string ⟨s.toArray⟩,l.length⟩=jK (l++[(z,s)]):=by
 simp[jK,bG8,esL]
theorem bN7 (b:Nat)(l:List (Int×List UInt8)): ∀e∈esL b l,∃j,∃h:j<l.length,e=⟨.int .i64 l[j].1,.string ⟨l[j].2.toArray⟩,b+j⟩:=by
 induction l generalizing b with
 |nil=>intro e he;cases he
 |cons x l I=>
  intro e he;rcases E0.1 he with rfl|he
  · exact⟨0,by simp,rfl⟩
  · obtain⟨j,J,rfl⟩:=I (b+1) e he;exact⟨j+1,by simpa using J,by simp;omega⟩
theorem cD5 (b:Nat)(l:List (Int×List UInt8))(j:Nat)(h:j<l.length):(⟨.int .i64 l[j].1,.string ⟨l[j].2.toArray⟩,b+j⟩:MapEntry)∈esL b l:=by
 induction l generalizing b j with
 |nil=>simp at h
 |cons x l I=>
  cases j with
  |zero=>exact H9
  |succ j=>
   have:=I (b+1) j (by simpa using h);simp only[esL,O2];rw[show b+(j+1)=b+1+j by omega];exact H2 _ this
def lkG (l:List (Int×List UInt8))(z:Int):Option (List UInt8):=(l.find? (·.1==z)).map (·.2)
theorem sV (z:Int): ∀(b i:Nat) (l:List (Int×List UInt8)),∃r,Instr.findNow (.int .i64) (.int .i64 z) (esL b l) i=some r∧r.map (·.2)=(lkG l z).map fun s=>Value.string ⟨s.toArray⟩
 |b,i,[]=>⟨none,rfl,rfl⟩
 |b,i,(y,s)::l=>by
  simp only[esL,Instr.findNow,Instr.sameNow,G4];cases h:z==y with
  |true=>
   have e:z=y:=by simpa using h
   exact⟨_,rfl,by simp[lkG,e]⟩
  |false=>
   obtain⟨r,I,J⟩:=sV z (b+1) (i+1) l;refine⟨r,I,?_⟩;have e: ¬y=z:=fun e=>by rw[e]at h;simp at h
   rw[J];simp[lkG,S4 e]
theorem bG9 {J:TypeId}{z:Int}{w:World}(I:P.underlying J=some (.int .i64))(b:Bool):(Instr.checkKey b 10000 J (.int .i64 z)).run P w= .ok () w:=by
 have key: ∀m,(Instr.checkKey b (m+1) J (.int .i64 z)).run P w= .ok () w:=fun m=>by
  unfold Instr.checkKey;simp[D4 I,Result.andThen]
 exact key 9999
section
variable {fr:Fr}{ob:Ob}{c:Ctx}{M:Nat→Prop}{a:Act}{w:World}{ρ:Env}
theorem bH0 (h:RepA' c M fr ob a w ρ){x:Operand}{id:Nat}(hx:ev fr x= .mapr id){es:Array MapEntry}{ck:Nat}(ho:ob id=some (.raw es ck)):
  ∃b,ρ id=some (.mp b fun _=>none)∧a.eval x= .map (some b)∧w.heap[b]? =some (.map es ck):=by
 have J:=dO (h.ev x (by rw[hx];simp)) (by rw[hx];rfl);rw[hx]at J;simp only[RepH]at J;obtain⟨⟨y,U,aa,I⟩,_⟩:=J;simp only[F8,J9]at U;obtain⟨b,h1,h2⟩:=h.s.objs id _ ho;exact⟨b,h1,by rw[U];exact I _ _ h1,h2⟩
end
def cD6 (P:Program)(t:TypeId):Prop:= ∃kt et,P.underlying t=some (.map kt et)∧P.underlying kt=some (.int .i64)∧ ∀w,(zeroValue et).run P w= .ok (.string ⟨#[]⟩) w
end Go.Hl
