/- HL, part Es: maps by number and text: their entries, and what is found in them. By an AI agent. -/
import Derived.Maps.RangeRun
import Derived.Test.YtlgckianjabghaaGreatDoorHlL
set_option linter.unusedSimpArgs false
set_option linter.unusedVariables false
set_option linter.defProp false
namespace Go.Hl
open Go
def HV.ids :HV→List Nat
 | .own id _| .ptr id _| .eptr id _ _ _ _| .osl id _ _ _ _| .mapr id| .mrow id _ _=>[id]
 |_=>[]
def touch (o:Op)(e:Operand→HV):List Nat:=
 match o with
 | .load _ x| .fieldAddr _ x _| .nilCheck x=>(e x).ids
 | .indexAddr _ x _=>(e x).ids
 | .slice _ x _ _ _=>(e x).ids
 | .lookup _ x _ _| .mapUpdate _ x _ _=>(e x).ids
 | .store _ x _=>(e x).ids
 | .call c=>match c.callee with
  | .builtin _=>c.args.toList.flatMap fun x=>(e x).ids
  |_=>[]
 |_=>[]
def isEff :Op→Bool
 | .store _ _ _| .mapUpdate _ _ _ _=>true
 | .call c=>match c.callee with
  | .builtin .len| .builtin .max| .builtin .min=>false
  |_=>true
 |_=>false
def cE :Op→Bool
 | .store _ _ _| .alloc _| .box _ _| .buildSlice _ _ _| .mapUpdate _ _ _ _| .makeMap _ _| .makeSlice _ _ _=>false
 | .call c=>match c.callee with
  | .builtin .len| .builtin .max| .builtin .min=>true
  |_=>false
 |_=>true
def app (u:Option (Nat×HO))(ob:Ob):Ob:=match u with|some p=>upd ob p.1 (some p.2)|none=>ob
variable {K:HV→Prop}{ob ob':Ob}{a:HV}
theorem aQ6 {ti:TyI}(hag: ∀id∈a.ids,ob' id=ob id)(h:hload ti a ob K):hload ti a ob' K:=by
 cases a with
 |ptr id off=>
  grind[HV.ids,hload]
 |eptr id n i sz off=>
  grind[HV.ids,hload]
 |c v=>cases v<;>simp only[hload]at h⊢ <;>exact h
 |_=>simp only[hload]at h
variable {t:TypeId}{P:Program}
theorem uL {f:Nat}(hag: ∀id∈a.ids,ob' id=ob id)(h:hfieldAddr P t a f ob K):hfieldAddr P t a f ob' K:=by
 unfold hfieldAddr hfield at h⊢;cases ht:aT P t with
 |none=>simp_all
 |some ti=>
  rw[ht]at h;simp only[hlift_some]at h⊢;split at h
  ·
   rename_i fs hfs;cases hf:fs[f]? with
   |none=>simp_all
   |some p=>
    rw[hf]at h;simp only[hlift_some]at h⊢;cases htf:aT P p.2 with
    |none=>simp_all
    |some tf=>
     grind[hlift_some,id,HV.ids]
  grind
theorem uM {i:HV}(hag: ∀id∈a.ids,ob' id=ob id)(h:hindexAddr P t a i ob K):hindexAddr P t a i ob' K:=by
 unfold hindexAddr at h⊢;cases ht:aT P t with
 |none=>simp_all
 |some ti=>
  rw[ht]at h;simp only[hlift_some]at h⊢;split at h
  ·
   rename_i e k n hd;cases hte:aT P e with
   |none=>simp_all
   |some te=>
    grind[hlift_some,id,HV.ids]
  ·
   rename_i m e k n hd;cases hte:aT P e with
   |none=>simp_all
   |some te=>
    grind[hlift_some,id,HV.ids]
  grind
theorem fO (hag: ∀id∈a.ids,ob' id=ob id):hread a ob'=hread a ob:=by
 cases a with
 |own id m=>grind[hread,HV.ids]
 |osl id m lo sz hi=>grind[hread,HV.ids]
 |c v=>cases v<;>rfl
 |_=>rfl
theorem aZ8 (hag: ∀id∈a.ids,ob' id=ob id)(h:live a ob):live a ob':=by
 cases a with
 |ptr id o=>grind[live,HV.ids]
 |eptr id n i sz o=>grind[live,HV.ids]
 |c v=>cases v<;>exact h
 |_=>exact h
theorem aD1 {nid:Nat}{o:Op}{e:Operand→HV}{K:HV→Ob→Prop}(h:hop P nid o e ob K):
  ∃v u,K v (app u ob)∧(∀ob':Ob,(∀id∈touch o e,ob' id=ob id)→ ∀K':HV→Ob→Prop,K' v (app u ob')→hop P nid o e ob' K')∧(∀p,u=some p→p.1=nid∨(isEff o=true∧p.1∈touch o e))∧(cE o=true→u=none):=by
 unfold hop at h;split at h
 · exact⟨_,none,h.2,fun ob' _ K' hK=>⟨h.1,hK⟩,by simp,fun _=>rfl⟩
 · exact⟨_,none,h.2,fun ob' _ K' hK=>⟨h.1,hK⟩,by simp,fun _=>rfl⟩
 ·
  unfold hpick at h;split at h
  · rename_i t hc;exact⟨_,none,h.2,fun ob' _ K' hK=>(by simp only[hop,hpick,hc];exact⟨h.1,hK⟩),by simp,fun _=>rfl⟩
  grind
 · rw[aD]at h;obtain⟨ti,ht,hK⟩:=h;exact⟨_,some (nid,_),hK,fun ob' _ K' hK=>(by simp only[hop,ht,hlift_some];exact hK),by simp,by grind[cE]⟩
 · exact⟨_,some (nid,_),h.2,fun ob' _ K' hK=>(by simp only[hop];exact⟨h.1,hK⟩),by simp,by grind[cE]⟩
 ·
  rw[aD]at h;obtain⟨ti,ht,h⟩:=h;unfold iK at h;split at h
  · rename_i zs hz;rw[aD]at h;obtain⟨hs,hf,hK⟩:=h;exact⟨_,none,hK,fun ob' _ K' hK=>(by simp only[hop,ht,hlift_some,iK,hz,hf];exact hK),by simp,fun _=>rfl⟩
  grind
 ·
  rw[aD]at h;obtain⟨ti,ht,h⟩:=h;split at h
  · rename_i el hel;rw[aD]at h;obtain⟨te,hte,h⟩:=h;rw[aD]at h;obtain⟨l,hcl,h1,hK⟩:=h;exact⟨_,some (nid,_),hK,fun ob' _ K' hK=>(by simp only[hop,ht,hlift_some,hel,hte,hcl];exact⟨h1,hK⟩),by simp,by grind[cE]⟩
  grind
 ·
  rename_i t x;rw[aD]at h;obtain⟨ti,ht,h⟩:=h;have key: ∀K:HV→Prop,hload ti (e x) ob K→ ∃v,K v∧ ∀K':HV→Prop,K' v→hload ti (e x) ob K':=by
   intro K h;unfold hload at h;split at h
   · grind[aD,hload,hlift_some]
   · grind[id,aD,hload,hlift_some]
   · grind[id,aD,hload,hlift_some]
   · grind
  obtain⟨v,hK,hv⟩:=key _ h;exact⟨v,none,hK,fun ob' hag K' hK'=>(by simp only[hop,ht,hlift_some];exact aQ6 hag (hv _ hK')),by simp,fun _=>rfl⟩
 ·
  rename_i t x y;rw[aD]at h;obtain⟨ti,ht,h⟩:=h;unfold hstore at h;split at h
  ·
   rename_i id off hx;split at h
   ·
    rename_i T u ho;obtain⟨h1,h⟩:=h;rw[aD]at h;obtain⟨u',hu,hK⟩:=h;refine⟨_,some (id,_),hK,fun ob' hag K' hK'=>?_,fun p hp=>?_,by simp[cE]⟩
    · have:=hag id (by simp[touch,hx,HV.ids]);simp only[hop,ht,hlift_some,hstore,hx,this,ho,hu];exact⟨h1,hK'⟩
    · cases hp;exact .inr ⟨rfl,by simp[touch,hx,HV.ids]⟩
   grind
  ·
   rename_i id n i sz off hx;split at h
   ·
    rename_i T sz' l ho;obtain⟨h1,h⟩:=h;rw[aD]at h;obtain⟨u',hu,h⟩:=h;rw[aD]at h;obtain⟨cu,hcu,hK⟩:=h;refine⟨_,some (id,_),hK,fun ob' hag K' hK'=>?_,fun p hp=>?_,by simp[cE]⟩
    · have:=hag id (by simp[touch,hx,HV.ids]);simp only[hop,ht,hlift_some,hstore,hx,this,ho,hu,hcu];exact⟨h1,hK'⟩
    · cases hp;exact .inr ⟨rfl,by simp[touch,hx,HV.ids]⟩
   grind
  grind
 · exact⟨_,none,h.2,fun ob' hag K' hK=>⟨aZ8 hag h.1,hK⟩,by simp,fun _=>rfl⟩
 ·
  rename_i op t x y yt;have key: ∀K:CV→Prop,kI P op t (e x) (e y) K→ ∃u,K u∧ ∀K':CV→Prop,K' u→kI P op t (e x) (e y) K':=by
   intro K h;unfold kI at h;split at h
   ·
    rename_i k1 i1 k2 i2 hx hy;by_cases hs:isShift op=true
    · rw[B6 hs]at h;cases op<;>simp[isShift]at hs<;>simp only[hshift]at h;all_goals exact⟨_,h.2,fun K' hK'=>by simp only[kI,hx,hy,isShift,F7,hshift];exact⟨h.1,hK'⟩⟩
    · rw[A7 hs]at h;cases op<;>simp[isShift]at hs<;>simp only[hint]at h;all_goals grind[kI,isShift,hint]
   · rename_i s1 s2 hx hy;cases op<;>simp only[hstr]at h;all_goals grind[kI,hstr]
   · grind[aD,kI,hlift_some]
   · grind[kI]
   · grind
  obtain⟨u,hK,hu⟩:=key _ h;exact⟨.c u,none,hK,fun ob' _ K' hK'=>(by simp only[hop];exact hu _ hK'),by simp,fun _=>rfl⟩
 ·
  rename_i op t x;unfold hun at h;split at h
  · rename_i b hx;exact⟨_,none,h,fun ob' _ K' hK'=>(by simp only[hop,hun,hx];exact hK'),by simp,fun _=>rfl⟩
  · rename_i k n hx;exact⟨_,none,h,fun ob' _ K' hK'=>(by simp only[hop,hun,hx];exact hK'),by simp,fun _=>rfl⟩
  · rename_i k n hx;exact⟨_,none,h,fun ob' _ K' hK'=>(by simp only[hop,hun,hx];exact hK'),by simp,fun _=>rfl⟩
  all_goals grind
 ·
  rename_i sr ds x;unfold hconv at h;rw[aD]at h;obtain⟨ts,hts,h⟩:=h;rw[aD]at h;obtain⟨td,htd,h⟩:=h;split at h
  · rename_i k k' n hd1 hx;exact⟨_,none,h,fun ob' _ K' hK'=>(by simp only[hop,hconv,hts,htd,hlift_some,hd1,hx];exact hK'),by simp,fun _=>rfl⟩
  · rename_i s hd1 hx;exact⟨_,none,h,fun ob' _ K' hK'=>(by simp only[hop,hconv,hts,htd,hlift_some,hd1,hx];exact hK'),by simp,fun _=>rfl⟩
  · rename_i el l hd1 hd2 hx;rw[aD]at h;obtain⟨te,hte,h8,h⟩:=h;rw[aD]at h;obtain⟨bs,hbs,h⟩:=h;exact⟨_,none,h,fun ob' _ K' hK'=>(by simp only[hop,hconv,hts,htd,hlift_some,hd1,hd2,hx,hte,hbs];exact⟨h8,hK'⟩),by simp,fun _=>rfl⟩
  grind
 ·
  rename_i f first caps
  obtain⟨hf,h⟩:=h;unfold hclo at h;split at h
  · rename_i hc;exact⟨_,none,h,fun ob' _ K' hK'=>(by simp only[hop,hclo,hc];exact⟨hf,hK'⟩),by simp,fun _=>rfl⟩
  ·
   rename_i hne;refine⟨_,none,h.2,fun ob' _ K' hK'=>?_,by simp,fun _=>rfl⟩;simp only[hop];refine⟨hf,?_⟩;unfold hclo;split
   · grind
   · exact⟨h.1,hK'⟩
 ·
  rename_i t x lo hi;by_cases hown: ∃id n,e x= .own id n
  ·
   obtain⟨id,n,hx⟩:=hown;simp only[hslice2,hx]at h;rw[aD]at h;obtain⟨ti,ht,h⟩:=h;split at h
   · rename_i el e' sz l hd1 ho;rw[aD]at h;obtain⟨te,hte,h1,h⟩:=h;rw[aD]at h;obtain⟨u1,hu1,h⟩:=h;rw[aD]at h;obtain⟨u2,hu2,h2,hK⟩:=h;refine⟨_,none,hK,fun ob' hag K' hK'=>?_,by simp,fun _=>rfl⟩;have hoid:ob' id=ob id:=hag id (by simp[touch,hx,HV.ids]);simp only[hop,hslice2,hx,ht,hlift_some,hd1,hoid,ho,hte];refine⟨h1,?_⟩;rw[hu1];simp only[hlift_some];rw[hu2];exact⟨h2,hK'⟩
   grind
  by_cases hptr: ∃id off,e x= .ptr id off
  ·
   obtain⟨id,off,hx⟩:=hptr;simp only[hslice2,hx]at h;rw[aD]at h;obtain⟨ti,ht,h⟩:=h;split at h
   · rename_i m el T v hd1 ho;rw[aD]at h;obtain⟨te,hte,h1,h⟩:=h;rw[aD]at h;obtain⟨u1,hu1,h⟩:=h;rw[aD]at h;obtain⟨u2,hu2,h2,hK⟩:=h;refine⟨_,none,hK,fun ob' hag K' hK'=>?_,by simp,fun _=>rfl⟩;have hoid:ob' id=ob id:=hag id (by simp[touch,hx,HV.ids]);simp only[hop,hslice2,hx,ht,hlift_some,hd1,hoid,ho,hte];refine⟨h1,?_⟩;rw[hu1];simp only[hlift_some];rw[hu2];exact⟨h2,hK'⟩
   grind
  have e2: ∀(ob':Ob) (K':HV→Prop),hslice2 P t (e x) (lo.map e) (hi.map e) ob' K'=hslice P t (e x) (lo.map e) (hi.map e) K':=fun ob' K'=>by simp_all[hslice2,id,absurd]
  rw[e2]at h;have key: ∀K:HV→Prop,hslice P t (e x) (lo.map e) (hi.map e) K→ ∃u,K u∧ ∀K':HV→Prop,K' u→hslice P t (e x) (lo.map e) (hi.map e) K':=by
   intro K h;unfold hslice at h;rw[aD]at h;obtain⟨ti,ht,h⟩:=h;simp only at h;split at h
   · rename_i s hd1 hx;rw[aD]at h;obtain⟨l,hl,h⟩:=h;rw[aD]at h;obtain⟨hh,hhh,hb,hK⟩:=h;exact⟨_,hK,fun K' hK'=>by simp_all[hslice,hlift_some]⟩
   · rename_i el s hd1 hx;rw[aD]at h;obtain⟨te,hte,hc,h⟩:=h;rw[aD]at h;obtain⟨l,hl,h⟩:=h;rw[aD]at h;obtain⟨hh,hhh,hb,hK⟩:=h;exact⟨_,hK,fun K' hK'=>by simp_all[hslice,hlift_some]⟩
   · rename_i el hd1 hx;rw[aD]at h;obtain⟨te,hte,h⟩:=h;rw[aD]at h;obtain⟨l,hl,h⟩:=h;rw[aD]at h;grind[hslice,hlift_some]
   · rename_i m el s hd1 hx;rw[aD]at h;obtain⟨te,hte,hc,h⟩:=h;rw[aD]at h;obtain⟨l,hl,h⟩:=h;rw[aD]at h;obtain⟨hh,hhh,hb,hK⟩:=h;exact⟨_,hK,fun K' hK'=>by simp_all[hslice,hlift_some]⟩
   · grind
  obtain⟨u,hK,hu⟩:=key _ h;exact⟨u,none,hK,fun ob' _ K' hK'=>(by simp only[hop,e2];exact hu _ hK'),by simp,fun _=>rfl⟩
 ·
  rename_i t x lo hi mx;have key: ∀K:HV→Prop,hslice3 P t (e x) (lo.map e) (e hi) (e mx) K→ ∃u,K u∧ ∀K':HV→Prop,K' u→hslice3 P t (e x) (lo.map e) (e hi) (e mx) K':=by
   intro K h;unfold hslice3 at h;rw[aD]at h;obtain⟨ti,ht,h⟩:=h;split at h
   · rename_i el s kh hh km m hd1 hx hhi hmx;rw[aD]at h;obtain⟨te,hte,hc,h⟩:=h;rw[aD]at h;grind[hslice3,hlift_some]
   · grind
  obtain⟨u,hK,hu⟩:=key _ h;exact⟨u,none,hK,fun ob' _ K' hK'=>(by simp only[hop];exact hu _ hK'),by simp,fun _=>rfl⟩
 ·
  rename_i t;unfold hmakeMap at h;rw[aD]at h;obtain⟨ti,ht,h⟩:=h;split at h
  ·
   rename_i kt et hd1;rw[aD]at h;obtain⟨te,hte,h⟩:=h;split at h
   · rename_i el hd2;rw[aD]at h;obtain⟨t2,ht2,hK⟩:=h;exact⟨_,some (nid,_),hK,fun ob' _ K' hK'=>(by simp only[hop,hmakeMap,ht,hlift_some,hd1,hte,hd2,ht2];exact hK'),by simp,by simp[cE]⟩
   · rename_i hd2;refine⟨_,some (nid,_),h,fun ob' _ K' hK'=>?_,by simp,by simp[cE]⟩;simp only[hop,hmakeMap,ht,hlift_some,hd1,hte];exact hK'
  grind
 ·
  rename_i t m k;unfold hlookup at h;rw[aD]at h;obtain⟨ti,ht,h⟩:=h;split at h
  ·
   rename_i kt et hd1;rw[aD]at h;obtain⟨tk,htk,h⟩:=h;rw[aD]at h;obtain⟨te,hte,h⟩:=h;split at h
   ·
    rename_i id s hkd hm hk;obtain⟨hs,h⟩:=h;split at h
    ·
     rename_i e' sz D ho;have go: ∀ob':Ob,ob' id=ob id→ ∀K':HV→Prop,hlookup P t (e m) (e k) ob' K'=(s.length≤maxLen∧match te.d,te.z with
       | .slice _,.nils=>xV (dA D s)=true∧K' (.mrow id s (gC (dA D s)).length)
       |_,_=>oH (dA D s)=true∧K' (.c (aC6 te.z (dA D s)))):=fun ob' hob K'=>by grind[hlookup,hlift_some]
     split at h
     · rename_i hde hdz;refine⟨_,none,h.2,fun ob' hag K' hK'=>?_,by simp,fun _=>rfl⟩;simp only[hop];rw[go ob' (hag id (by simp[touch,hm,HV.ids])),hde,hdz];exact⟨hs,h.1,hK'⟩
     ·
      rename_i hno;refine⟨_,none,h.2,fun ob' hag K' hK'=>?_,by simp,fun _=>rfl⟩;simp only[hop];rw[go ob' (hag id (by simp[touch,hm,HV.ids]))];refine⟨hs,?_⟩;split
      · rename_i el hde hdz;exact absurd hdz (hno el hde)
      · exact⟨h.1,hK'⟩
    grind
   grind
  grind
 ·
  rename_i t m k v;unfold hmapUpdate at h;rw[aD]at h;obtain⟨ti,ht,h⟩:=h;split at h
  ·
   rename_i kt et hd1;rw[aD]at h;obtain⟨tk,htk,h⟩:=h;rw[aD]at h;obtain⟨te,hte,h⟩:=h;split at h
   ·
    rename_i id s hkd hm hk;obtain⟨hs,h⟩:=h;split at h
    ·
     rename_i e' sz D ho;split at h
     ·
      rename_i el id2 s2 n hde hv;refine⟨_,some (id,_),h.2,fun ob' hag K' hK'=>?_,fun p hp=>?_,by simp[cE]⟩
      · have hoid:=hag id (by simp[touch,hm,HV.ids]);simp only[hop,hmapUpdate,ht,hlift_some,hd1,htk,hte,hkd,hm,hk,hoid,ho,hde,hv];exact⟨hs,h.1,hK'⟩
      · cases hp;exact .inr ⟨rfl,by simp[touch,hm,HV.ids]⟩
     ·
      rename_i cv _ _ hv;refine⟨_,some (id,_),h.2,fun ob' hag K' hK'=>?_,fun p hp=>?_,by simp[cE]⟩
      · have hoid:=hag id (by simp[touch,hm,HV.ids]);simp only[hop,hmapUpdate,ht,hlift_some,hd1,htk,hte,hkd,hm,hk,hoid,ho,hv];exact⟨hs,h.1,hK'⟩
      · cases hp;exact .inr ⟨rfl,by simp[touch,hm,HV.ids]⟩
     · exact h.elim
    grind
   grind
  grind
 ·
  rename_i t x f;have key: ∀K:HV→Prop,hfieldAddr P t (e x) f ob K→ ∃u,K u∧ ∀K':HV→Prop,K' u→hfieldAddr P t (e x) f ob K':=by
   intro K h;unfold hfieldAddr hfield at h;rw[aD]at h;obtain⟨ti,ht,h⟩:=h;split at h
   ·
    rename_i fs hfs;rw[aD]at h;obtain⟨p,hp,h⟩:=h;rw[aD]at h;obtain⟨tf,htf,h⟩:=h;split at h
    · rename_i v hx;rw[aD]at h;obtain⟨u,hu,hK⟩:=h;exact⟨_,hK,fun K' hK'=>by grind[hfieldAddr,hfield,hlift_some]⟩
    all_goals grind[id,hfieldAddr,hfield,hlift_some]
   · grind
  obtain⟨u,hK,hu⟩:=key _ h;exact⟨u,none,hK,fun ob' hag K' hK'=>(by simp only[hop];exact uL hag (hu _ hK')),by simp,fun _=>rfl⟩
 ·
  rename_i t x f;obtain⟨h1,h⟩:=h;have key: ∀G:Nat→TyI→Prop,hfield P t f G→ ∃off tf,G off tf∧ ∀G':Nat→TyI→Prop,G' off tf→hfield P t f G':=by
   intro G h;unfold hfield at h;rw[aD]at h;obtain⟨ti,ht,h⟩:=h;split at h
   · grind[aD,hfield,hlift_some]
   · grind
  obtain⟨off,tf,hG,hG'⟩:=key _ h;rw[aD]at hG;obtain⟨v,hv,hK⟩:=hG;exact⟨v,none,hK,fun ob' _ K' hK'=>(by simp only[hop];exact⟨h1,hG' _ (by rw[hv];exact hK')⟩),by simp,fun _=>rfl⟩
 ·
  rename_i t x i;have key: ∀K:HV→Prop,hindexAddr P t (e x) (e i) ob K→ ∃u,K u∧ ∀K':HV→Prop,K' u→hindexAddr P t (e x) (e i) ob K':=by
   intro K h;unfold hindexAddr at h;rw[aD]at h;obtain⟨ti,ht,h⟩:=h;split at h
   ·
    rename_i el k n hd1 hi;rw[aD]at h;obtain⟨te,hte,h⟩:=h;split at h
    · grind[hindexAddr,hlift_some]
    · grind[id,hindexAddr,hlift_some]
    · rename_i id m lo sz hi' hx;split at h;all_goals grind[hindexAddr,hlift_some]
    grind
   ·
    rename_i m el k n hd1 hi;rw[aD]at h;obtain⟨te,hte,h0,h⟩:=h;split at h
    · grind[id,hindexAddr,hlift_some]
    all_goals grind[id,hindexAddr,hlift_some,aD]
   · grind
  obtain⟨u,hK,hu⟩:=key _ h;exact⟨u,none,hK,fun ob' hag K' hK'=>(by simp only[hop];exact uM hag (hu _ hK')),by simp,fun _=>rfl⟩
 ·
  rename_i t x i;unfold hindex at h;rw[aD]at h;obtain⟨ti,ht,h⟩:=h;split at h
  · rename_i s k n hd1 hx hi;exact⟨_,none,h.2,fun ob' _ K' hK'=>(by simp only[hop,hindex,ht,hlift_some,hd1,hx,hi];exact⟨h.1,hK'⟩),by simp,fun _=>rfl⟩
  · rename_i m el k n hd1 hi;rw[aD]at h;obtain⟨te,hte,h1,h⟩:=h;rw[aD]at h;obtain⟨u,hu,hK⟩:=h;exact⟨_,none,hK,fun ob' _ K' hK'=>(by simp only[hop,hindex,ht,hlift_some,hd1,hi,hte,hu];exact⟨h1,hK'⟩),by simp,fun _=>rfl⟩
  grind
 ·
  rename_i x i;unfold hext at h;split at h
  · rename_i l hx;rw[aD]at h;obtain⟨v,hv,hj,hK⟩:=h;exact⟨_,none,hK,fun ob' _ K' hK'=>(by simp only[hop,hext,hx,hv,hlift_some];exact⟨hj,hK'⟩),by simp,fun _=>rfl⟩
  grind
 ·
  rename_i cl;split at h
  ·
   rename_i x t hcal hargs hat;rw[aD]at h;obtain⟨ti,ht,h⟩:=h;split at h
   · rename_i hd1;rw[aD]at h;obtain⟨n,hn,hK⟩:=h;exact⟨_,none,hK,fun ob' _ K' hK'=>(by simp only[hop,hcal,hargs,hat,ht,hlift_some,hd1];rw[hn];exact hK'),by simp,fun _=>rfl⟩
   · rename_i el hd1;rw[aD]at h;obtain⟨l,hl,hK⟩:=h;refine⟨_,none,hK,fun ob' hag K' hK'=>?_,by simp,fun _=>rfl⟩;simp only[hop,hcal,hargs,hat,ht,hlift_some,hd1];rw[fO (fun id hid=>hag id (by grind[touch])),hl];exact hK'
   · rename_i n el hd1;exact⟨_,none,h,fun ob' _ K' hK'=>(by simp only[hop,hcal,hargs,hat,ht,hlift_some,hd1];exact hK'),by simp,fun _=>rfl⟩
   grind
  ·
   rename_i s x t t' hcal hargs hat;by_cases htt:t'=t
   case neg=>
    rw[A7 htt]at h;have htouch:touch (.call cl) e=(e s).ids++(e x).ids:=by simp only[touch,hcal,hargs,I1,K5,J6]
    unfold happends at h;rw[aD]at h;obtain⟨ti,ht,h⟩:=h;rw[aD]at h;obtain⟨tu,htu,h⟩:=h;split at h
    ·
     rename_i el bs hd1 hd2 hx;rw[aD]at h;obtain⟨te,hte,hc2,h⟩:=h;split at h
     ·
      rename_i id n hs;split at h
      ·
       rename_i e' sz l ho;refine⟨_,some (id,_),h.2.2.2,fun ob' hag K' hK'=>?_,fun p hp=>?_,by simp[cE,hcal]⟩
       · have hoid:=hag id (by rw[htouch,hs];simp[HV.ids]);simp only[hop,hcal,hargs,hat];rw[A7 htt];simp only[happends,ht,htu,hlift_some,hd1,hd2,hx,hte,hs,hoid,ho];exact⟨hc2,h.1,h.2.1,h.2.2.1,hK'⟩
       · cases hp;exact .inr ⟨by simp only[isEff,hcal],by grind[HV.ids]⟩
      · exact h.elim
     · exact h.elim
    grind
   rw[B6 htt]at h;unfold happend2 at h;split at h
   ·
    rename_i id k n hs;rw[aD]at h;obtain⟨ti,ht,h⟩:=h;have htouch:touch (.call cl) e=(e s).ids++(e x).ids:=by simp only[touch,hcal,hargs,I1,K5,J6]
    split at h
    ·
     rename_i el hd1;rw[aD]at h;obtain⟨te,hte,h⟩:=h;rw[aD]at h;obtain⟨l2,hl2,hc2,h⟩:=h;split at h
     ·
      rename_i e' sz D ho;refine⟨_,some (id,_),h.2.2.2,fun ob' hag K' hK'=>?_,fun p hp=>?_,by simp[cE,hcal]⟩
      · simp only[hop,hcal,hargs,hat,happend2,hs,ht,hlift_some,hd1,hte];rw[B6 htt];rw[fO (fun i hi=>hag i (by rw[htouch];exact J5 _ hi)),hl2];simp only[hlift_some];rw[hag id (by grind[HV.ids]),ho];exact⟨hc2,h.1,h.2.1,h.2.2.1,hK'⟩
      · cases hp;exact .inr ⟨by simp only[isEff,hcal],by grind[HV.ids]⟩
     · exact h.elim
    grind
   rename_i hns;have e2: ∀(ob':Ob) (K':HV→Ob→Prop),happend2 P t (e s) (e x) nid ob' K'=happend P t (e s) (e x) nid ob' K':=fun ob' K'=>by grind[happend2,id,absurd]
   unfold happend at h;rw[aD]at h;obtain⟨ti,ht,h⟩:=h;have htouch:touch (.call cl) e=(e s).ids++(e x).ids:=by simp only[touch,hcal,hargs,I1,K5,J6]
   split at h
   ·
    rename_i el hd1;rw[aD]at h;obtain⟨te,hte,h⟩:=h;rw[aD]at h;obtain⟨l2,hl2,hc2,h⟩:=h;split at h
    ·
     rename_i id n hs;split at h
     ·
      rename_i e' sz l ho;refine⟨_,some (id,_),h.2.2.2,fun ob' hag K' hK'=>?_,fun p hp=>?_,by simp[cE,hcal]⟩
      · simp only[hop,hcal,hargs,hat,e2,happend,ht,hlift_some,hd1,hte];rw[B6 htt];rw[fO (fun i hi=>hag i (by rw[htouch];exact J5 _ hi)),hl2];simp only[hlift_some,hs];rw[hag id (by rw[htouch,hs];simp[HV.ids]),ho];exact⟨hc2,h.1,h.2.1,h.2.2.1,hK'⟩
      · cases hp;exact .inr ⟨by simp only[isEff,hcal],by grind[HV.ids]⟩
     · exact h.elim
    · rename_i hs;refine⟨_,some (nid,_),h.2.2,fun ob' hag K' hK'=>?_,by simp,by grind[cE]⟩;simp only[hop,hcal,hargs,hat,e2,happend,ht,hlift_some,hd1,hte];rw[B6 htt];rw[fO (fun i hi=>hag i (by grind)),hl2];simp only[hlift_some,hs];exact⟨hc2,h.1,h.2.1,hK'⟩
    · exact h.elim
   grind
  ·
   rename_i x y t1 t2 hcal hargs hat;unfold hmax at h;split at h
   · rename_i k i1 k' i2 hx hy;exact⟨_,none,h.2,fun ob' _ K' hK'=>(by simp only[hop,hcal,hargs,hat,hmax,hx,hy];exact⟨h.1,hK'⟩),by simp,fun _=>rfl⟩
   grind
  ·
   rename_i x y t1 t2 hcal hargs hat;unfold hmax at h;split at h
   · rename_i k i1 k' i2 hx hy;exact⟨_,none,h.2,fun ob' _ K' hK'=>(by simp only[hop,hcal,hargs,hat,hmax,hx,hy];exact⟨h.1,hK'⟩),by simp,fun _=>rfl⟩
   grind
  ·
   rename_i x t hcal hargs hat;have htouch:touch (.call cl) e=(e x).ids:=by simp only[touch,hcal,hargs,I1,K5,J6]
   unfold hclear at h;rw[aD]at h;obtain⟨ti,ht,h⟩:=h;split at h
   ·
    rename_i el id n lo sz hi hd1 hx;rw[aD]at h;obtain⟨te,hte,h⟩:=h;split at h
    ·
     rename_i e' sz' l ho;refine⟨_,some (id,_),h.2,fun ob' hag K' hK'=>?_,fun p hp=>?_,by simp[cE,hcal]⟩
     · have hoid:=hag id (by grind[HV.ids]);simp only[hop,hcal,hargs,hat,hclear,ht,hlift_some,hd1,hx,hte,hoid,ho];exact⟨h.1,hK'⟩
     · cases hp;exact .inr ⟨by simp only[isEff,hcal],by grind[HV.ids]⟩
    · exact h.elim
   grind
  ·
   rename_i x y t t' hcal hargs hat;have htouch:touch (.call cl) e=(e x).ids++(e y).ids:=by simp only[touch,hcal,hargs,I1,K5,J6]
   unfold hcopy at h;rw[aD]at h;obtain⟨ti,ht,h⟩:=h;split at h
   ·
    rename_i el id n lo sz hi hd1 hx;rw[aD]at h;obtain⟨te,hte,h⟩:=h;split at h
    ·
     rename_i T l ho;rw[aD]at h;obtain⟨u,hu,h⟩:=h;refine⟨_,some (id,_),h.2,fun ob' hag K' hK'=>?_,fun p hp=>?_,by simp[cE,hcal]⟩
     · have hoid:=hag id (by grind[HV.ids]);simp only[hop,hcal,hargs,hat,hcopy,ht,hlift_some,hd1,hx,hte,hoid,ho];rw[fO (fun i hi=>hag i (by rw[htouch];exact J5 _ hi)),hu];simp only[hlift_some];exact⟨h.1,hK'⟩
     · cases hp;exact .inr ⟨by simp only[isEff,hcal],by grind[HV.ids]⟩
    · exact h.elim
   grind
  grind
 ·
  rename_i t x;unfold hmkIface at h;rw[aD]at h;obtain⟨ti,ht,h⟩:=h;split at h
  · rename_i v hx;exact⟨_,none,h.2,fun ob' _ K' hK'=>(by simp only[hop,hmkIface,ht,hlift_some,hx];exact⟨h.1,hK'⟩),by simp,fun _=>rfl⟩
  grind
 ·
  rename_i x s t;unfold hassert at h;rw[aD]at h;obtain⟨ti,ht,h⟩:=h;split at h
  · rename_i t' v hx;exact⟨_,none,h.2,fun ob' _ K' hK'=>(by simp only[hop,hassert,ht,hlift_some,hx];exact⟨h.1,hK'⟩),by simp,fun _=>rfl⟩
  grind
 ·
  rename_i t len cap;unfold hmakeSlice at h;rw[aD]at h;obtain⟨ti,ht,h⟩:=h;split at h
  ·
   rename_i el k1 l k2 m hd1 hlen hcap;rw[aD]at h;obtain⟨te,hte,h⟩:=h;by_cases hl0:l=0
   · rw[B6 hl0]at h;exact⟨_,some (nid,_),h.2,fun ob' _ K' hK'=>(by simp only[hop,hmakeSlice,ht,hlift_some,hd1,hlen,hcap,hte];rw[B6 hl0];exact⟨h.1,hK'⟩),by simp,by simp[cE]⟩
   · rw[A7 hl0]at h;exact⟨_,some (nid,_),h.2,fun ob' _ K' hK'=>(by simp only[hop,hmakeSlice,ht,hlift_some,hd1,hlen,hcap,hte];rw[A7 hl0];exact⟨h.1,hK'⟩),by simp,by simp[cE]⟩
  grind
 grind
/- References that are closed: a slice of one's own that nobody will write any more. -/
mutual
def HV.close (ob:Ob)(cl:List Nat):HV→HV
 | .c v=> .c v.denil
 | .own id n=>if cl.contains id=true then(match ob id with
  |some (.row _ _ l)=>if n=l.length then .c (.slc l)else .own id n
  |_=> .own id n)else .own id n
 | .osl id n lo sz hi=>if cl.contains id=true then(match ob id with
  |some (.row _ sz' l)=>if n=l.length∧0<n∧sz=sz'∧lo≤hi∧hi≤n then .c (.slc ((l.drop lo).take (hi-lo)))else .osl id n lo sz hi
  |_=> .osl id n lo sz hi)else .osl id n lo sz hi
 | .agg l=> .agg (HV.closeL ob cl l)
 | .tup l=> .tup (HV.closeL ob cl l)
 |v=>v
def HV.closeL (ob:Ob)(cl:List Nat):List HV→List HV
 |[]=>[]
 |v::vs=>(v.close ob cl).norm::HV.closeL ob cl vs
end
section
variable {P:Program}{w:World}{ρ ρ2:Env}{X:Nat→Prop}{ob:Ob}{cl:List Nat}
theorem HV.close_agg (v:HV):(v.close ob cl).isAgg=v.isAgg:=by
 cases v with
 |c v=>simp only[HV.close,HV.isAgg,CV.denil_isAgg]
 |own id n=>
  simp only[HV.close];split
  ·
   split
   · split<;>rfl
   · rfl
  · rfl
 |osl id n lo sz hi=>
  simp only[HV.close];split
  ·
   split
   · split<;>rfl
   · rfl
  · rfl
 |_=>simp only[HV.close,HV.isAgg]
theorem mB : ∀l:List HV,(HV.closeL ob cl l).length=l.length
 |[]=>rfl
 |v::vs=>by simp only[HV.closeL,B0,mB vs]
mutual
theorem lP : ∀v:HV,(v.close ob cl).cells=v.cells∧(v.sto=true→(v.close ob cl).sto=true)
 | .junk=>by simp[HV.close]
 | .c v=>by simp[HV.close,HV.cells,HV.sto,CV.denil_cells]
 | .agg l=>by simp only[HV.close,HV.cells,HV.sto];exact nG l
 | .own id n=>by grind[HV.close,HV.cells,CV.cells,HV.sto]
 | .ptr .. =>by simp[HV.close]
 | .eptr .. =>by simp[HV.close]
 | .osl id n lo sz hi=>by grind[HV.close,HV.cells,CV.cells,HV.sto]
 | .mapr .. =>by simp[HV.close]
 | .mrow .. =>by simp[HV.close]
 | .clo .. =>by simp[HV.close]
 | .opq _=>by simp[HV.close]
 | .tup _=>by simp[HV.close,HV.cells,HV.sto]
theorem nG : ∀l:List HV,HV.cellsL (HV.closeL ob cl l)=HV.cellsL l∧(HV.stoL l=true→HV.stoL (HV.closeL ob cl l)=true)
 |[]=>by simp[HV.closeL]
 |v::vs=>by
  simp only[HV.closeL,HV.cellsL,HV.stoL,HV.norm_cells,lP v,nG vs,A6,V5];exact fun h=>⟨HV.norm_sto ((lP v).2 h.1),(nG vs).2 h.2⟩
end
theorem rH {sz:Nat}: ∀l:List HV,(∀v∈l,v.cells=sz∧v.sto=true)→ ∀v∈HV.closeL ob cl l,v.cells=sz∧v.sto=true
 |[],_=>by simp[HV.closeL]
 |v::vs,h=>by
  simp only[HV.closeL,AK]at h⊢;exact⟨⟨by grind[HV.norm_cells,lP],HV.norm_sto ((lP v).2 h.1.2)⟩,rH vs h.2⟩
theorem bM6 (hS:RepS w ρ X ob)(hcl: ∀id∈cl,ρ2 id=none)(hρ: ∀id L,ρ2 id=some L→ρ id=some L)(hst:Stay w (Owned ρ X) w (Owned ρ2 X)){id n:Nat}{cs:List Value}
  (h:RepH w ρ (Owned ρ X) (.own id n) cs):RepH w ρ2 (Owned ρ2 X) ((HV.own id n).close ob cl) cs:=by
 have stale:RepH w ρ2 (Owned ρ2 X) (.own id n) cs:=by
  simp only[RepH]at h⊢;obtain⟨x,h1,h2,h3⟩:=h;exact⟨x,h1,h2,fun hd hh=>h3 hd (hρ _ _ hh)⟩
 simp only[HV.close];split
 ·
  rename_i hin;split
  ·
   rename_i e sz l ho;split
   ·
    rename_i hn;simp only[RepH,RepC]at h⊢;obtain⟨x,rfl,h2,h3⟩:=h;obtain⟨hd,xs,hρ1,hl,hcs,how⟩:=hS.objs id _ ho;obtain⟨e1,e2⟩:=h3 hd hρ1;have hin':id∈cl:=by simpa using hin
    rcases how.2 with⟨rfl,hz⟩|⟨g,cap,cur,rfl,hg0,hg,hcap,_⟩
    · have hx:=e2 (by simp[hlen,hn,hz]);exact⟨none,0,xs,sz,by rw[hx,hz],hl.stay hst,hcs,by omega,fun _=>rfl,fun ad had=>(by grind)⟩
    ·
     have hx:=e2 (by simp[hlen,hn]);refine⟨some ⟨g,0,none⟩,cap,xs,sz,by rw[hx],hl.stay hst,hcs,hcap,fun hh=>(by grind),fun ad had=>?_⟩;cases had;refine⟨how.cells (g:=g) rfl,fun _=>?_⟩;rintro(hx2|⟨id',L,h4,h5⟩)
     · exact hS.xb id _ g hρ1 rfl hx2
     · have:=hS.apart id' id L _ g (hρ _ _ h4) hρ1 h5 rfl;subst this;rw[hcl id' hin']at h4;cases h4
   grind
  grind
 grind
theorem bM7 (hS:RepS w ρ X ob)(hcl: ∀id∈cl,ρ2 id=none)(hρ: ∀id L,ρ2 id=some L→ρ id=some L)(hst:Stay w (Owned ρ X) w (Owned ρ2 X)){id n lo sz hi:Nat}{cs:List Value}
  (h:RepH w ρ (Owned ρ X) (.osl id n lo sz hi) cs):RepH w ρ2 (Owned ρ2 X) ((HV.osl id n lo sz hi).close ob cl) cs:=by
 have stale:RepH w ρ2 (Owned ρ2 X) (.osl id n lo sz hi) cs:=by
  simp only[RepH]at h⊢;obtain⟨x,h1,h2,h3,h4⟩:=h;exact⟨x,h1,h2,fun hd hh=>h3 hd (hρ _ _ hh),fun b hh=>h4 b (hρ _ _ hh)⟩
 simp only[HV.close];split
 ·
  rename_i hin;split
  ·
   rename_i e sz' l ho;split
   ·
    rename_i hc;obtain⟨hn,hn0,rfl,hlo,hhi⟩:=hc;simp only[RepH,RepC]at h⊢;obtain⟨x,rfl,h2,h3,_⟩:=h;obtain⟨hd,xs,hρ1,hl,hcs,how⟩:=hS.objs id _ ho;obtain⟨e1,e2⟩:=h3 hd hρ1;have hin':id∈cl:=by simpa using hin
    rcases how.2 with⟨rfl,hz⟩|⟨g,cap,cur,rfl,hg0,hg,hcap,_⟩
    · omega
    ·
     have hx:=e2 (by simp[hlen,hn]) g cap (by rw[hn]);have hlen':((l.drop lo).take (hi-lo)).length=hi-lo:=by simp;omega
     refine⟨_,cap-lo,(xs.drop (lo*sz)).take ((hi-lo)*sz),sz,by rw[hx,hlen'],(gF _ (iL _ hl hcs) (fun v hv=>hcs v (G1 hv))).stay hst,fun v hv=>hcs v (G1 (H5 hv)),by omega,fun hh=>(by cases hh),fun ad had=>?_⟩;cases had;have hcell:=how.cells (g:=g) rfl;refine⟨fun j u hj=>?_,fun _=>?_⟩
     ·
      by_cases hce:cap=lo
      ·
       have:hi-lo=0:=by omega
       rw[this]at hj;simp at hj
      ·
       rw[A7 hce];have hj2:=hj;rw[O2]at hj2;split at hj2
       ·
        rw[X0]at hj2;have:=hcell _ _ hj2;by_cases hj0:j=0
        ·
         subst hj0;by_cases hz:lo*sz=0
         · simpa[Addr.add,hz]using this
         · simpa[Addr.add,hz]using this
        · simpa[Addr.add,hj0,O4,BL]using this
       · cases hj2
     ·
      rintro(hx2|⟨id',L,h4,h5⟩)
      · exact hS.xb id _ g hρ1 rfl hx2
      · have:=hS.apart id' id L _ g (hρ _ _ h4) hρ1 h5 rfl;subst this;rw[hcl id' hin']at h4;cases h4
   grind
  grind
 grind
mutual
theorem jJ (hS:RepS w ρ X ob)(hcl: ∀id∈cl,ρ2 id=none)(hρ: ∀id L,ρ2 id=some L→ρ id=some L)(hst:Stay w (Owned ρ X) w (Owned ρ2 X)): ∀{v:HV} {cs:List Value},RepH w ρ (Owned ρ X) v cs→RepH w ρ2 (Owned ρ2 X) (v.close ob cl) cs
 | .c v,cs,h=>by simp only[RepH,HV.close]at h⊢;exact CV.denil_rep (h.stay hst)
 | .own id n,cs,h=>bM6 hS hcl hρ hst h
 | .agg l,cs,h=>by simp only[RepH,HV.close]at h⊢;exact nH hS hcl hρ hst h
 | .tup l,cs,h=>by
  simp only[RepH,HV.close]at h⊢;obtain⟨xs,h1,h2⟩:=h;exact⟨xs,h1,yB hS hcl hρ hst h2⟩
 | .junk,cs,h=>by simp only[RepH]at h
 | .ptr id off,cs,h=>by grind[RepH,HV.close]
 | .eptr id n i sz off,cs,h=>by grind[RepH,HV.close]
 | .osl ..,cs,h=>bM7 hS hcl hρ hst h
 | .mapr id,cs,h=>by grind[RepH,HV.close]
 | .mrow id k n,cs,h=>by grind[RepH,HV.close]
 | .opq _,cs,h=>by grind[RepH,HV.close]
 | .clo f caps,cs,h=>by
  simp only[RepH,HV.close]at h⊢;obtain⟨xs,h1,h2⟩:=h;exact⟨xs,h1,RepHV.stay (M:=fun _=>True) hst (fun id L _ hL=>⟨L,hρ _ _ hL,.inl rfl⟩) (HV.menL_true _) h2⟩
theorem nH (hS:RepS w ρ X ob)(hcl: ∀id∈cl,ρ2 id=none)(hρ: ∀id L,ρ2 id=some L→ρ id=some L)(hst:Stay w (Owned ρ X) w (Owned ρ2 X)): ∀{l:List HV} {cs:List Value},RepHL w ρ (Owned ρ X) l cs→RepHL w ρ2 (Owned ρ2 X) (HV.closeL ob cl l) cs
 |[],cs,h=>by grind[RepHL,HV.closeL]
 |v::vs,cs,h=>by
  simp only[RepHL,HV.closeL]at h⊢;obtain⟨c1,c2,h1,h2,h3⟩:=h;exact⟨c1,c2,h1,HV.norm_rep (jJ hS hcl hρ hst h2),nH hS hcl hρ hst h3⟩
theorem yB (hS:RepS w ρ X ob)(hcl: ∀id∈cl,ρ2 id=none)(hρ: ∀id L,ρ2 id=some L→ρ id=some L)(hst:Stay w (Owned ρ X) w (Owned ρ2 X)): ∀{l:List HV} {xs:List Value},RepHV w ρ (Owned ρ X) l xs→RepHV w ρ2 (Owned ρ2 X) (HV.closeL ob cl l) xs
 |[],xs,h=>by grind[RepHV,HV.closeL]
 |v::vs,xs,h=>by
  simp only[RepHV,HV.closeL]at h⊢;obtain⟨y,ys,h1,⟨h2,h2'⟩,h3⟩:=h;exact⟨y,ys,h1,⟨HV.norm_rep (jJ hS hcl hρ hst h2),by grind[HV.norm_agg,HV.close_agg]⟩,yB hS hcl hρ hst h3⟩
end
end
def esL :Nat→List (Int×List UInt8)→List MapEntry
 |_,[]=>[]
 |b,(z,s)::l=>⟨.int .i64 z,.string ⟨s.toArray⟩,b⟩::esL (b+1) l
def cR1 (l:List (Int×List UInt8)):Array MapEntry:=(esL 0 l).toArray
def lkG (l:List (Int×List UInt8))(z:Int):Option (List UInt8):=(l.find? (·.1==z)).map (·.2)
theorem yC (z:Int): ∀(b i:Nat) (l:List (Int×List UInt8)),∃r,Instr.findNow (.int .i64) (.int .i64 z) (esL b l) i=some r∧r.map (·.2)=(lkG l z).map fun s=>Value.string ⟨s.toArray⟩
 |b,i,[]=>⟨none,rfl,rfl⟩
 |b,i,(y,s)::l=>by
  simp only[esL,Instr.findNow,Instr.sameNow,F7];cases h:z==y with
  |true=>
   have e:z=y:=by simpa using h
   exact⟨_,rfl,by simp[lkG,e]⟩
  |false=>
   obtain⟨r,h1,h2⟩:=yC z (b+1) (i+1) l;refine⟨r,h1,?_⟩;have e: ¬y=z:=fun e=>by rw[e]at h;simp at h
   rw[h2];simp[lkG,H4 e]
theorem bV0 {kt:TypeId}{z:Int}{w:World}(hkt:P.underlying kt=some (.int .i64))(b:Bool):(Instr.checkKey b 10000 kt (.int .i64 z)).run P w= .ok () w:=by
 have key: ∀m,(Instr.checkKey b (m+1) kt (.int .i64 z)).run P w= .ok () w:=fun m=>by
  unfold Instr.checkKey;simp[D3 hkt,Result.andThen]
 exact key 9999
section
variable {fr:Fr}{ob:Ob}{c:Ctx}{M:Nat→Prop}{a:Act}{w:World}{ρ:Env}
theorem cR2 (h:RepA' c M fr ob a w ρ){x:Operand}{id:Nat}(hx:ev fr x= .mapr id){es:Array MapEntry}{ck:Nat}(ho:ob id=some (.raw es ck)):
  ∃b,ρ id=some (.mp b fun _=>none)∧a.eval x= .map (some b)∧w.heap[b]? =some (.map es ck):=by
 have hr:=dQ (h.ev x (by rw[hx];simp)) (by rw[hx];rfl);rw[hx]at hr;simp only[RepH]at hr;obtain⟨⟨y,hy,hy1,hy2⟩,_⟩:=hr;simp only[G4,L8]at hy;obtain⟨b,h1,h2⟩:=h.s.objs id _ ho;exact⟨b,h1,by rw[hy];exact hy2 _ _ h1,h2⟩
end
def cR3 (P:Program)(t:TypeId):Prop:= ∃kt et,P.underlying t=some (.map kt et)∧P.underlying kt=some (.int .i64)∧ ∀w,(zeroValue et).run P w= .ok (.string ⟨#[]⟩) w
end Go.Hl
