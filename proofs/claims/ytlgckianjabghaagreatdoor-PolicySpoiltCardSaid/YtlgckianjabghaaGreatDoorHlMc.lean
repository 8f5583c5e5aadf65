/- HL, part M, closing: a row that an operation makes or lengthens may be closed at once. By an AI agent. -/
import Derived.Test.YtlgckianjabghaaGreatDoorHlEs
set_option linter.unusedSimpArgs false
set_option linter.unusedVariables false
set_option linter.defProp false
namespace Go.Hl
open Go
def kJ (l:List HV)(i:Nat):HV:=l.getD i .junk
theorem nthH_zero (v:HV)(l:List HV):kJ (v::l) 0=v:=rfl
theorem nthH_succ (v:HV)(l:List HV)(i:Nat):kJ (v::l) (i+1)=kJ l i:=by simp[kJ]
theorem bM8 (l:List HV)(v:HV):kJ (l++[v]) l.length=v:=by simp[kJ]
theorem jT {l:List HV}{i:Nat}(h:i<l.length):kJ l i∈l:=by simp[kJ,h]
theorem sL {M:Nat→Prop}: ∀{l:List HV} {v:HV},HV.menL M l→v∈l→v.men M
 |u::l,v,h,hv=>by
  simp only[HV.menL]at h;rcases E9.1 hv with rfl|hv
  · grind
  · exact sL h.2 hv
theorem pU {M:Nat→Prop}{u:HV}(hu:u.men M): ∀{l:List HV} {i:Nat},HV.menL M l→HV.menL M (l.set i u)
 |[],i,h=>by grind
 |v::l,0,h=>by grind[HV.menL]
 |v::l,i+1,h=>by simp only[HV.menL,P0]at h⊢;exact⟨h.1,pU hu h.2⟩
section
variable {w:World}{ρ:Env}{O:Nat→Prop}{sz:Nat}
theorem pV {u:HV}: ∀{l:List HV} {cs:List Value} {i:Nat},RepHL w ρ O l cs→(∀v∈l,v.cells=sz)→i<l.length→
  ∃c1 c2 c3,cs=c1++c2++c3∧c1.length=i*sz∧RepH w ρ O (kJ l i) c2∧ ∀c2',RepH w ρ O u c2'→RepHL w ρ O (l.set i u) (c1++c2'++c3)
 |[],cs,i,_,_,hi=>by grind
 |v::vs,cs,0,h,_,_=>by
  simp only[RepHL]at h;obtain⟨c1,c2,rfl,h1,h2⟩:=h;exact⟨[],c1,c2,by simp,by simp,by simpa[kJ]using h1,fun c2' h'=>by grind[RepHL]⟩
 |v::vs,cs,i+1,h,hc,hi=>by
  simp only[RepHL]at h;obtain⟨c1,c2,rfl,h1,h2⟩:=h;obtain⟨d1,d2,d3,rfl,e1,e2,e3⟩:=pV (i:=i) h2 (fun v hv=>hc v (by grind)) (by grind);refine⟨c1++d1,d2,d3,by simp,?_,by simpa[kJ]using e2,fun c2' h'=>?_⟩
  · rw[A3,bZ h1,hc v (by simp),e1,K0];omega
  · simp only[P0,RepHL];exact⟨c1,d1++c2'++d3,by simp,h1,e3 c2' h'⟩
theorem mC : ∀{l:List HV} {xs:List Value},RepHL w ρ O l xs→(∀v∈l,v.cells=sz)→xs.length=l.length*sz
 |[],xs,h,_=>by grind[RepHL]
 |v::vs,xs,h,hc=>by
  simp only[RepHL]at h;obtain⟨c1,c2,rfl,h1,h2⟩:=h;rw[A3,bZ h1,hc v (by simp),mC h2 (fun u hu=>hc u (by grind)),List.length_cons,Nat.add_mul];omega
theorem aZ9 {l:List HV}{cs:List Value}(hs: ∀v∈l,v.sto=true)(h:RepHL w ρ O l cs): ∀u∈cs,u.oneCell'=true:=
 uE (by
  induction l generalizing cs with
  |nil=>rfl
  |cons v l ih=>
   grind[RepHL,HV.stoL,Bool.and_self]) h
end
def hreadH (x:HV)(ob:Ob):Option (List HV):=
 match x with
 | .own id n=>match ob id with
  |some (.hrow _ _ l)=>if n=l.length then some l else none
  |_=>none
 |_=>none
def hreadA (x:HV)(ob:Ob):Option (List HV):=
 match x with
 | .own id n=>match ob id with
  |some (.hrow _ _ l)=>if n=l.length then some l else none
  |some (.row _ _ l)=>if n=l.length then some (l.map .c)else none
  |_=>none
 | .c (.slc l)=>some (l.map .c)
 | .c .nils=>some []
 |_=>none
def hparts (e:Operand→HV):List (Nat×Operand)→Nat→Nat→Option (List HV)
 |[],_,_=>some []
 |(i,x)::ps,k,sz=>if i=k∧(e x).cells=sz∧(e x).sto=true then(hparts e ps (k+1) sz).map ((e x).norm::·)else none
def cL (id n sz m:Nat):HV:=if m=n then .own id n else .osl id n 0 sz m
def HO.isH (n:Nat):Option HO→Prop
 |some (.hrow _ _ l)=>n=l.length∧l≠[]
 |_=>False
def hopH (P:Program)(nid:Nat)(o:Op)(e:Operand→HV)(ob:Ob)(K:HV→Ob→Prop):Prop:=
 match o with
 | .buildSlice t len parts=>hlift (aT P t) fun ti=>match ti.d with
  | .slice el=>hlift (aT P el) fun te=>hlift (hparts e parts.toList 0 te.size) fun l=>(len=l.length∧len*te.size≤2^24)∧K (.own nid len) (upd ob nid (some (.hrow el te.size l)))
  |_=>False
 | .load t x=>hlift (aT P t) fun ti=>match e x with
  | .eptr id n i sz off=>match ob id with
   |some (.hrow _ sz' l)=>(n=l.length∧sz=sz'∧i<l.length)∧hlift ((kJ l i).getAt off ti.size ti.d.isAgg) fun u=>K u ob
   |_=>False
  |_=>False
 | .store t x y=>hlift (aT P t) fun ti=>match e x with
  | .eptr id n i sz off=>match ob id with
   |some (.hrow T sz' l)=>(n=l.length∧sz=sz'∧i<l.length∧(e y).sto=true∧(e y).cells=ti.size)∧hlift (HV.setAt off ti.size (e y) (kJ l i)) fun u=>K .junk (upd ob id (some (.hrow T sz' (l.set i u.norm))))
   |_=>False
  |_=>False
 | .nilCheck x=>match e x with
  | .eptr id n i sz off=>HO.isH n (ob id)∧K (.eptr id n i sz off) ob
  |_=>False
 | .fieldAddr t x f=>hfield P t f fun off _=>match e x with
  | .eptr id n i sz o=>HO.isH n (ob id)∧K (.eptr id n i sz (o+off)) ob
  |_=>False
 | .indexAddr t x i=>hlift (aT P t) fun ti=>match ti.d,e i with
  | .slice el,.c (.int _ i)=>hlift (aT P el) fun te=>match e x with
   | .own id n=>match ob id with
    |some (.hrow _ sz l)=>(n=l.length∧sz=te.size)∧(0≤i∧i<(n:Int))∧K (.eptr id n i.toNat sz 0) ob
    |_=>False
   |_=>False
  |_,_=>False
 | .slice t x lo hi none=>hlift (aT P t) fun ti=>match ti.d,e x with
  | .slice el,.osl id n l sz m=>match ob id with
   |some (.row _ sz' L)=>hlift (aT P el) fun te=>(l=0∧n=L.length∧0<n∧sz=te.size∧sz'=te.size∧m≤n)∧hlift (hlo (lo.map e) 0) fun a=>hlift (hlo (hi.map e) m) fun b=>(0≤a∧a≤b∧b≤(m:Int))∧K (.osl id n a.toNat sz b.toNat) ob
   |_=>False
  | .slice el,.own id n=>match ob id with
   |some (.row _ _ L)=>hlift (aT P el) fun te=>n=L.length∧hlift (hlo (lo.map e) 0) fun a=>hlift (hlo (hi.map e) n) fun b=>(a=0∧0≤b∧b≤(n:Int))∧K (cL id n te.size b.toNat) ob
   |_=>False
  |_,_=>False
 | .lookup t x y true=>match e x,e y with
  | .mapr id,.c (.int .i64 z)=>match ob id with
   |some (.raw es _)=> ∃l,es=cR1 l∧cR3 P t∧K (.tup [.c (.str ((lkG l z).getD [])),.c (.bool (lkG l z).isSome)]) ob
   |_=>False
  |_,_=>False
 | .call c=>match c.callee,c.args.toList,c.argTypes.toList with
  | .builtin .len,[x],[t]=>hlift (aT P t) fun ti=>match ti.d with
   | .slice _=>hlift (hreadH (e x) ob) fun l=>K (.c (.int .i64 l.length)) ob
   |_=>False
  | .builtin .append,[s,x],[t,t']=>hlift (aT P t) fun ti=>match ti.d with
   | .slice el=>hlift (aT P el) fun te=>match e s with
    | .osl id n lo sz m=>match ob id with
     |some (.row e' sz' l)=>hlift (hread (e x) ob) fun lx=>(t'=t∧n=l.length∧0<n∧e'=el∧sz=te.size∧sz'=te.size∧lo=0∧0<lx.length∧m+lx.length≤n)∧(∀v∈lx,v.cells=te.size)∧
       K (cL id n sz (m+lx.length)) (upd ob id (some (.row el te.size (l.take m++lx++l.drop (m+lx.length)))))
     |_=>False
    | .own id n=>hlift (hreadA (e x) ob) fun l2=>(t'=t∧ ∀v∈l2,v.cells=te.size∧v.sto=true)∧match ob id with
     |some (.hrow e' sz l)=>(n=l.length∧e'=el∧sz=te.size)∧(l.length+l2.length)*te.bytes≤140737488355328∧l.length+l2.length≤maxLen∧K (.own id (l++l2).length) (upd ob id (some (.hrow el sz (l++l2))))
     |_=>False
    | .c .nils=>hlift (hreadA (e x) ob) fun l2=>(t'=t∧ ∀v∈l2,v.cells=te.size∧v.sto=true)∧(0+l2.length)*te.bytes≤140737488355328∧l2.length≤maxLen∧K (.own nid l2.length) (upd ob nid (some (.hrow el te.size l2)))
    |_=>False
   |_=>False
  |_,_,_=>False
 |_=>False
variable {K:HV→Ob→Prop}{ob:Ob}{e:Operand→HV}{o:Op}{nid:Nat}{P:Program}
theorem bA0 (h:hopH P nid o e ob K):
  ∃v u,K v (app u ob)∧(∀ob':Ob,(∀id∈touch o e,ob' id=ob id)→ ∀K':HV→Ob→Prop,K' v (app u ob')→hopH P nid o e ob' K')∧(∀p,u=some p→p.1=nid∨(isEff o=true∧p.1∈touch o e))∧(cE o=true→u=none):=by
 unfold hopH at h;split at h
 ·
  rw[aD]at h;obtain⟨ti,ht,h⟩:=h;split at h
  · rename_i el hel;rw[aD]at h;obtain⟨te,hte,h⟩:=h;rw[aD]at h;obtain⟨l,hcl,h1,hK⟩:=h;exact⟨_,some (nid,_),hK,fun ob' _ K' hK=>(by simp only[hopH,ht,hlift_some,hel,hte,hcl];exact⟨h1,hK⟩),by simp,by simp[cE]⟩
  grind
 ·
  rw[aD]at h;obtain⟨ti,ht,h⟩:=h;split at h
  ·
   rename_i id n i sz off hx;split at h
   · rename_i T sz' l ho;obtain⟨h1,h⟩:=h;rw[aD]at h;obtain⟨u,hu,hK⟩:=h;refine⟨_,none,hK,fun ob' hag K' hK=>?_,by simp,fun _=>rfl⟩;have hoid:=hag id (by simp[touch,hx,HV.ids]);simp only[hopH,ht,hlift_some,hx,hoid,ho,hu];exact⟨h1,hK⟩
   grind
  grind
 ·
  rw[aD]at h;obtain⟨ti,ht,h⟩:=h;split at h
  ·
   rename_i id n i sz off hx;split at h
   ·
    rename_i T sz' l ho;obtain⟨h1,h⟩:=h;rw[aD]at h;obtain⟨u,hu,hK⟩:=h;refine⟨_,some (id,_),hK,fun ob' hag K' hK=>?_,fun p hp=>?_,by simp[cE]⟩
    · have hoid:=hag id (by simp[touch,hx,HV.ids]);simp only[hopH,ht,hlift_some,hx,hoid,ho,hu];exact⟨h1,hK⟩
    · cases hp;exact .inr ⟨rfl,by simp[touch,hx,HV.ids]⟩
   grind
  grind
 ·
  split at h
  · rename_i id n i sz off hx;refine⟨_,none,h.2,fun ob' hag K' hK=>?_,by simp,fun _=>rfl⟩;have hoid:=hag id (by simp[touch,hx,HV.ids]);simp only[hopH,hx,hoid];exact⟨h.1,hK⟩
  grind
 ·
  rename_i t x f;unfold hfield at h;rw[aD]at h;obtain⟨ti,ht,h⟩:=h;split at h
  ·
   rename_i fs hfs;rw[aD]at h;obtain⟨p,hf,h⟩:=h;rw[aD]at h;obtain⟨tf,htf,h⟩:=h;split at h
   · rename_i id n i sz off hx;refine⟨_,none,h.2,fun ob' hag K' hK=>?_,by simp,fun _=>rfl⟩;have hoid:=hag id (by simp[touch,hx,HV.ids]);simp only[hopH,hfield,ht,hlift_some,hfs,hf,htf,hx,hoid];exact⟨h.1,hK⟩
   grind
  grind
 ·
  rw[aD]at h;obtain⟨ti,ht,h⟩:=h;split at h
  ·
   rename_i el k i hd hi;rw[aD]at h;obtain⟨te,hte,h⟩:=h;split at h
   ·
    rename_i id n hx;split at h
    · rename_i T sz l ho;refine⟨_,none,h.2.2,fun ob' hag K' hK=>?_,by simp,fun _=>rfl⟩;have hoid:=hag id (by simp[touch,hx,HV.ids]);simp only[hopH,ht,hlift_some,hd,hi,hte,hx,hoid,ho];exact⟨h.1,h.2.1,hK⟩
    grind
   grind
  grind
 ·
  rename_i t x lo hi;rw[aD]at h;obtain⟨ti,ht,h⟩:=h;split at h
  ·
   rename_i el id n l sz m hd hx;split at h
   · rename_i T sz' L ho;rw[aD]at h;obtain⟨te,hte,h1,h⟩:=h;rw[aD]at h;obtain⟨a,ha,h⟩:=h;rw[aD]at h;obtain⟨b,hb,h2,hK⟩:=h;refine⟨_,none,hK,fun ob' hag K' hK=>?_,by simp,fun _=>rfl⟩;have hoid:=hag id (by simp[touch,hx,HV.ids]);simp only[hopH,ht,hlift_some,hd,hx,hoid,ho,hte];refine⟨h1,?_⟩;rw[ha];simp only[hlift_some];rw[hb];exact⟨h2,hK⟩
   grind
  ·
   rename_i el id n hd hx;split at h
   · rename_i T sz' L ho;rw[aD]at h;obtain⟨te,hte,h1,h⟩:=h;rw[aD]at h;obtain⟨a,ha,h⟩:=h;rw[aD]at h;obtain⟨b,hb,h2,hK⟩:=h;refine⟨_,none,hK,fun ob' hag K' hK=>?_,by simp,fun _=>rfl⟩;have hoid:=hag id (by simp[touch,hx,HV.ids]);simp only[hopH,ht,hlift_some,hd,hx,hoid,ho,hte];refine⟨h1,?_⟩;rw[ha];simp only[hlift_some];rw[hb];exact⟨h2,hK⟩
   grind
  grind
 ·
  rename_i t x y;split at h
  ·
   rename_i id z hx hy;split at h
   · rename_i es ck ho;obtain⟨l,hl,hlk,hK⟩:=h;refine⟨_,none,hK,fun ob' hag K' hK=>?_,by simp,fun _=>rfl⟩;have hoid:=hag id (by simp[touch,hx,HV.ids]);simp only[hopH,hx,hy,hoid,ho];exact⟨l,hl,hlk,hK⟩
   · exact h.elim
  · exact h.elim
 ·
  rename_i c;split at h
  ·
   rename_i x t hcal hargs hat;rw[aD]at h;obtain⟨ti,ht,h⟩:=h;split at h
   ·
    rename_i el hd;rw[aD]at h;obtain⟨l,hl,hK⟩:=h;refine⟨_,none,hK,fun ob' hag K' hK=>?_,by simp,fun _=>rfl⟩;have hl':hreadH (e x) ob'=some l:=by
     rw[←hl];unfold hreadH;split
     · grind[id,touch,HV.ids]
     · rfl
    simp only[hopH,hcal,hargs,hat,ht,hlift_some,hd,hl'];exact hK
   grind
  ·
   rename_i s x t t' hcal hargs hat;rw[aD]at h;obtain⟨ti,ht,h⟩:=h;have htouch:touch (.call c) e=(e s).ids++(e x).ids:=by simp only[touch,hcal,hargs,I1,K5,J6]
   split at h
   ·
    rename_i el hd;rw[aD]at h;obtain⟨te,hte,h⟩:=h;have hl': ∀{l2:List HV} (ob':Ob),hreadA (e x) ob=some l2→(∀id∈touch (.call c) e,ob' id=ob id)→hreadA (e x) ob'=some l2:=fun ob' hl hag=>by
     rw[←hl];unfold hreadA;grind[id,HV.ids]
    split at h
    ·
     rename_i id n lo sz m hs;split at h
     ·
      rename_i e' sz' l ho;rw[aD]at h;obtain⟨lx,hl,hc,h2,hK⟩:=h;refine⟨_,some (id,_),hK,fun ob' hag K' hK=>?_,fun p hp=>?_,by simp[cE,hcal]⟩
      · have hoid:=hag id (by rw[htouch,hs];simp[HV.ids]);have hr:=(fO fun i hi=>hag i (by rw[htouch];exact J5 _ hi)).trans hl;simp only[hopH,hcal,hargs,hat,ht,hlift_some,hd,hte,hs,hoid,ho,hr];exact⟨hc,h2,hK⟩
      · cases hp;exact .inr ⟨by simp only[isEff,hcal],by grind[HV.ids]⟩
     · exact h.elim
    ·
     rename_i id n hs;rw[aD]at h;obtain⟨l2,hl,hc,h⟩:=h;split at h
     ·
      rename_i e' sz l ho;refine⟨_,some (id,_),h.2.2.2,fun ob' hag K' hK=>?_,fun p hp=>?_,by simp[cE,hcal]⟩
      · have hoid:=hag id (by grind[HV.ids]);simp only[hopH,hcal,hargs,hat,ht,hlift_some,hd,hte,hl' ob' hl hag,hs,hoid,ho];exact⟨hc,h.1,h.2.1,h.2.2.1,hK⟩
      · cases hp;exact .inr ⟨by simp only[isEff,hcal],by grind[HV.ids]⟩
     · exact h.elim
    · rename_i hs;rw[aD]at h;obtain⟨l2,hl,hc,h⟩:=h;refine⟨_,some (nid,_),h.2.2,fun ob' hag K' hK=>?_,by simp,by simp[cE,hcal]⟩;simp only[hopH,hcal,hargs,hat,ht,hlift_some,hd,hte,hl' ob' hl hag,hs];exact⟨hc,h.1,h.2.1,hK⟩
    grind
   grind
  grind
 grind
theorem sM {e e':Operand→HV}: ∀{ps:List (Nat×Operand)} {k sz:Nat},(∀p∈ps,e' p.2=e p.2)→hparts e' ps k sz=hparts e ps k sz
 |[],_,_,_=>rfl
 |(i,x)::ps,k,sz,h=>by simp only[hparts,show e' x=e x from h (i,x) (by simp),sM (ps:=ps) (fun p hp=>h p (by grind))]
variable {e':Operand→HV}
theorem aA8 {x:Option Operand}(h: ∀y∈x.toList,e' y=e y):x.map e'=x.map e:=by
 cases x with
 |none=>rfl
 |some y=>grind
theorem bA1 (h: ∀x∈o.operands,e' x=e x)(hl:hopH P nid o e ob K):hopH P nid o e' ob K:=by
 unfold hopH at hl;split at hl
 · rename_i t n ps;have: ∀p∈ps.toList,e' p.2=e p.2:=fun p hp=>h p.2 (by simp only[Op.operands,Z2,L3];grind);simp only[hopH,sM this];grind
 · grind[hopH,Op.operands]
 · simp_all[hopH,Op.operands]
 · grind[hopH,Op.operands]
 · grind[hopH,Op.operands]
 · grind[hopH,Op.operands]
 · simp_all[Op.operands,aA8,hopH]
 · grind[hopH,Op.operands]
 · rename_i c;have ha: ∀y∈c.args.toList,e' y=e y:=fun y hy=>h y (by grind[Op.operands,Call.operands]);split at hl;all_goals simp_all[hopH]
 grind
section
variable {P:Program}{c:Ctx}{M M':Nat→Prop}{fr:Fr}{ob:Ob}{a:Act}{w:World}{ρ:Env}
theorem uN (h:RepA' c M fr ob a w ρ){x:Operand}{id n sz:Nat}{t:TypeId}{l:List HV}(hx:ev fr x= .own id n)(ho:ob id=some (.hrow t sz l))(hn:n=l.length):
  ∃hd xs,ρ id=some (.hdr hd)∧a.eval x=hd∧hlen hd=n∧RepHL w ρ (Owned ρ c.X) l xs∧(∀v∈l,v.cells=sz∧v.sto=true)∧w.ownsRow 0 t sz hd n xs:=by
 subst hn;obtain⟨y,he,h1,hp⟩:=bU7 h hx;obtain⟨hd,xs,hρ,hl2,hcs,how⟩:=h.s.objs id _ ho;grind[hlen,ownsRow_size]
theorem rJ (h:RepA' c M fr ob a w ρ){x:Operand}{id n i sz off sz':Nat}{t:TypeId}{l:List HV}(hx:ev fr x= .eptr id n i sz off)(ho:ob id=some (.hrow t sz' l))(hn:n=l.length)(hne:l≠[]):
  ∃g cap cur xs,ρ id=some (.hdr (.slice (some ⟨g,0,none⟩) n cap))∧a.eval x= .pointer (some ⟨g,i*sz+off,none⟩)∧RepHL w ρ (Owned ρ c.X) l xs∧(∀v∈l,v.cells=sz'∧v.sto=true)∧xs.length=n*sz'∧w.heap[g]? =some (.cells cur t (0,0))∧
   n≤cap∧cap≤maxLen∧cur.size=cap*sz'∧cur.toList.take (n*sz')=xs:=by
 subst hn;obtain⟨y,he,h1,hp⟩:=bF8 h hx;obtain⟨hd,xs,hρ,hl2,hcs,how⟩:=h.s.objs id _ ho;obtain⟨hp1,hp2⟩:=hp hd hρ;have hw1:=how.1;rcases how.2 with⟨rfl,hz⟩|⟨g,cap,cur,rfl,hg0,hg,hcap,hmax,hcsz,htake⟩
 · grind
 · exact⟨g,cap,cur,xs,hρ,by rw[he];exact hp2 rfl g cap rfl,hl2,hcs,hw1,hg,hcap,hmax,hcsz,htake⟩
theorem vP (h:RepA' c M fr ob a w ρ){sz:Nat}: ∀(ps:List (Nat×Operand)) (k:Nat) (l:List HV),hparts (ev fr) ps k sz=some l→
  ∃vs:List Value,(ps.map fun p=>(p.1,a.eval p.2))=(vs.zipIdx k).map (fun p=>(p.2,p.1))∧vs.length=l.length∧(∀v∈vs,v.cells.size=sz)∧(∀v∈l,v.cells=sz∧v.sto=true)∧HV.menL M l∧RepHL w ρ (Owned ρ c.X) l (vs.map fun v=>v.cells.toList).flatten
 |[],k,l,hl=>by simp only[hparts,D6]at hl;subst hl;exact⟨[],by simp,rfl,by simp,by simp,by simp[HV.menL],by simp[RepHL]⟩
 |(i,x)::ps,k,l,hl=>by
  simp only[hparts]at hl;split at hl
  ·
   rename_i hc;obtain⟨rfl,hcs,hst⟩:=hc;rw[C8]at hl;obtain⟨l',hl,rfl⟩:=hl;obtain⟨vs,e1,e2,e4,e5,em,e6⟩:=vP h ps (i+1) l' hl;have hv:=h.ev x (by intro e;rw[e]at hst;simp[HV.sto]at hst);refine⟨a.eval x::vs,by simp[e1],by simp[e2],fun u hu=>?_,fun u hu=>?_,?_,?_⟩
   ·
    rcases E9.1 hu with rfl|hu
    · have:=bZ hv.1;rw[hcs]at this;simpa using this
    · exact e4 u hu
   ·
    rcases E9.1 hu with rfl|hu
    · exact⟨by rw[HV.norm_cells];exact hcs,HV.norm_sto hst⟩
    · exact e5 u hu
   · simp only[HV.menL];exact⟨HV.norm_men (h.evm x),em⟩
   · simp only[D0,R5,RepHL];exact⟨_,_,rfl,HV.norm_rep hv.1,e6⟩
  · cases hl
theorem aJ7 (h:RepA' c M fr ob a w ρ){nid:Nat}(hn: ¬M nid)(hM: ∀i,M i→M' i)(hM':M' nid){t e:TypeId}{ti te:TyI}(ht:aT P t=some ti)(hd0:ti.d= .slice e)
  (hte:aT P e=some te) {parts:Array (Nat×Operand)} {len:Nat} {l:List HV} (hl:hparts (ev fr) parts.toList 0 te.size=some l) (hlen:len=l.length) (hmax:len*te.size≤2^24)
  (d:Option Nat) (hd: ∀k,d=some k→k<c.n):
  ∃y w' ρ',(Instr.buildSlice t len (parts.map fun p=>(p.1,a.eval p.2))).run P w= .ok y w'∧RepA' c M' (updo fr d (.own nid len)) (upd ob nid (some (.hrow e te.size l))) (a.put d y) w' ρ':=by
 obtain⟨i,d',zv,hty⟩:=bM ht;obtain⟨ie,de,zve,htye⟩:=bM hte;have hdd:=hty.d_;rw[hd0]at hdd;have hu:P.underlying t=some (.slice e):=by
  rw[hty.under];congr 1;cases d'<;>simp[tyd]at hdd;grind
 obtain⟨vs,e1,e2,e4,e5,em,e6⟩:=vP h _ _ _ hl;have hpos:=htye.pos;have key: ∀cells0:Array Value,cells0.size=len*te.size→ ∃cells',Instr.fill (fun i=>some (i*te.size,te.size)) cells0 (parts.map fun p=>(p.1,a.eval p.2)).toList=some cells'∧cells'.toList=(vs.map fun v=>v.cells.toList).flatten:=by
  intro cells0 hc;obtain⟨cells',h1,h2⟩:=xR te.size vs 0 cells0 (by rw[hc,e2,hlen];simp) e4;exact⟨cells',by rw[O9,e1];exact h1,by rw[h2];simp⟩
 have hsz:(sizeOf e).run P w= .ok te.size w:=by rw[cD htye.info,htye.size]
 have hzero:(zeroValue e).run P w= .ok zve w:=by simp[zeroValue,typeInfo,htye.info,htye.zero]
 have hmk: ∃cells',(Instr.buildSlice t len (parts.map fun p=>(p.1,a.eval p.2))).run P w= .ok (.slice (some ⟨w.heap.size,0,none⟩) len len) (w.alloc (.cells cells' e))∧cells'.toList=(vs.map fun v=>v.cells.toList).flatten:=by
  by_cases h0:len*te.size=0
  · obtain⟨cells',h1,h2⟩:=key ((Array.range (len*te.size)).map ((#[]:Array Value)[· %(#[]:Array Value).size]!)) (by simp);refine⟨cells',?_,h2⟩;unfold Instr.buildSlice;simp only[F8,D3 hu,E4,hsz];rw[A7 (by omega)];simp only[h0,F7,F8,I5,E4];rw[h0]at h1;rw[h1];simp[newRow]
  · obtain⟨cells',h1,h2⟩:=key ((Array.range (len*te.size)).map (zve.cells[· %zve.cells.size]!)) (by simp);refine⟨cells',?_,h2⟩;unfold Instr.buildSlice;simp only[F8,D3 hu,E4,hsz];rw[A7 (by omega)];simp only[A7 h0,F8,hzero,I5,E4];rw[h1];simp[newRow]
 obtain⟨cells',hrun,hcells⟩:=hmk;have hxl:=mC e6 (fun v hv=>(e5 v hv).1);refine⟨_,_,_,hrun,h.newObj (w1:=w) (L:= .hdr (.slice (some ⟨w.heap.size,0,none⟩) len len)) hn hM hM' rfl rfl rfl rfl (fun b hb=>by simpa[Loc.has,Value.ownBlock]using hb.symm) (fun hst=>?_) (HV.menL_mono hM em) (.inr ?_) (by simpa[HV.men]using hM') hd⟩
 ·
  have hcl:cells'.toList.length=len*te.size:=by rw[hcells,hxl,hlen]
  refine⟨_,_,aU _ _ _,RepHL.stay hst (Moves.upd_new hn) em e6,e5,?_,.inr ⟨w.heap.size,len,cells',by rw[hlen],F9 _,O5 w _,by omega,?_,by simpa using hcl,?_⟩⟩
  · rw[←hcells,hcl,hlen]
  · have:len≤len*te.size:=Z1 _ hpos;unfold maxLen;omega
  · rw[E6 (by rw[hcl,hlen];exact F2 _),hcells]
 · refine dR ?_ rfl rfl;simp only[RepH];refine⟨_,rfl,by simp[Value.oneCell'],fun hd' hρ=>?_⟩;rw[aU]at hρ;cases hρ;exact⟨F2 _,fun _=>rfl⟩
theorem aQ7 (h:RepA' c M fr ob a w ρ){t:TypeId}{ti:TyI}(ht:aT P t=some ti){x:Operand}{id n i sz off sz':Nat}{T:TypeId}{l:List HV}(hx:ev fr x= .eptr id n i sz off)(ho:ob id=some (.hrow T sz' l))
  (hn:n=l.length) (hsz:sz=sz') (hi:i<l.length) {u:HV} (hg:(kJ l i).getAt off ti.size ti.d.isAgg=some u):
  ∃y,(Instr.loadAt t (a.eval x)).run P w= .ok y w∧RepV w ρ (Owned ρ c.X) u y∧u.men M:=by
 obtain⟨i0,d,zv,hty⟩:=bM ht;subst hn hsz;obtain⟨g,cap,cur,xs,hρ,he,hl2,hcs,hxl,hh,hcap,hmax,hcsz,htake⟩:=rJ h hx ho rfl (fun e=>by grind);obtain⟨d1,d2,d3,rfl,f1,f2,_⟩:=pV (u:= .junk) hl2 (fun v hv=>(hcs v hv).1) hi;obtain⟨c1,c2,c3,rfl,e1,e2,e3,e4,e5,e6⟩:=HV.getAt_spec hg (hcs _ (jT hi)).2 f2;refine⟨eP ti.d.isAgg c2,?_,gE e3 e4 e5,e6 M (sL (h.mo id _ ho).2 (jT hi))⟩;rw[he];simp only[Instr.loadAt,Instr.sureAddr,F8,I5,E4];refine kG hty _ c2 e2 (fun j u hj=>?_);have hlt:j<c2.length:=(I2.1 hj).1;rw[eU,AF w g _ _ _ _ hh];have htot:i*sz+off+j<l.length*sz:=by
  simp only[A3]at hxl;omega
 have h3:cur[i*sz+off+j]? =(cur.toList.take (l.length*sz))[i*sz+off+j]? :=by
  rw[O2,B6 htot,U9]
 rw[h3,htake];simp only[E8];rw[M4 (by omega),M4 (by omega),M8 (by omega)];rw[←hj];congr 1;omega
theorem aJ8 (h:RepA' c M fr ob a w ρ){t:TypeId}{ti:TyI}(ht:aT P t=some ti){x y:Operand}{id n i sz off sz':Nat}{T:TypeId}{l:List HV}(hx:ev fr x= .eptr id n i sz off)(ho:ob id=some (.hrow T sz' l))
  (hn:n=l.length) (hsz:sz=sz') (hi:i<l.length) (hvs:(ev fr y).sto=true) (hvc:(ev fr y).cells=ti.size) {u:HV} (hset:HV.setAt off ti.size (ev fr y) (kJ l i)=some u):
  ∃w',(Instr.storeAt t (a.eval x) (a.eval y)).run P w= .ok () w'∧ ∀d z,(∀k,d=some k→k<c.n)→RepA' c M (updo fr d .junk) (upd ob id (some (.hrow T sz' (l.set i u.norm)))) (a.put d z) w' ρ:=by
 obtain⟨i0,d,zv,hty⟩:=bM ht;subst hn hsz;have hne:l≠[]:=fun e=>by grind
 obtain⟨g,cap,cur,xs,hρ,he,hl2,hcs,hxl,hh,hcap,hmax,hcsz,htake⟩:=rJ h hx ho rfl hne;have hvr:=h.ev y (by intro e;rw[e]at hvs;simp[HV.sto]at hvs);have hmn:=(h.mo id _ ho).2;obtain⟨d1,d2,d3,rfl,f1,f2,f3⟩:=pV (u:=u.norm) hl2 (fun v hv=>(hcs v hv).1) hi;obtain⟨c1,c2,c3,rfl,e1,e2,e3,e4,e5⟩:=HV.setAt_spec (ρ:=ρ) hvs hset (hcs _ (jT hi)).2 f2;have hvl:(a.eval y).cells.toList.length=c2.length:=by rw[bZ hvr.1,hvc,e2]
 have hcur:cur.toList=(d1++c1)++c2++(c3++d3++cur.toList.drop (l.length*sz)):=by
  refine(R3 (l.length*sz) cur.toList).symm.trans ?_;rw[htake];simp
 have hclen:cur.size=cur.toList.length:=by simp
 have hoff:i*sz+off=(d1++c1).length:=by simp[f1,e1]
 have hrun:=lZ (P:=P) (w:=w) hty.info (a.eval y) (by rw[hty.size,←hvc,←bZ hvr.1];simp) g (i*sz+off) T cur hh
  (by rw[hclen,hcur,hoff];simp only[A3];rw[hty.size,←e2];omega) (oD hvs hvr.1)
 refine⟨_,by rw[he];exact hrun,fun d z hd=>?_⟩;have hnew:cur.toList.take (i*sz+off)++(a.eval y).cells.toList++cur.toList.drop (i*sz+off+(a.eval y).cells.toList.length)=(d1++c1)++(a.eval y).cells.toList++(c3++d3++cur.toList.drop (l.length*sz)):=by
  rw[hoff]
  conv=>lhs;rw[hcur]
  exact lO hvl
 rw[hnew];have hmu:u.norm.men M:=HV.norm_men (e5 M (h.evm y) (sL hmn (jT hi)));have hun:=HV.norm_rep (e3 _ hvr.1);have hcells:(∀v∈l.set i u.norm,v.cells=sz∧v.sto=true):=by
  intro v hv;rcases K4 hv with hv|rfl
  · exact hcs v hv
  · have h1:=bZ hun;have h2:=bZ f2;rw[(hcs _ (jT hi)).1]at h2;simp only[A3]at h1 h2;exact⟨by omega,HV.norm_sto e4⟩
 have hxs:=f3 _ hun;refine h.setObj (b0:=g) hρ (by simp[Loc.has,Value.ownBlock]) (h.mo id _ ho).1 (fun b' hb'=>Q6 w g b' _ hb') (V6 _ _ _) rfl rfl rfl (fun hst=>?_) (pU hmu hmn) (fun _=> .inl rfl) (by simp[HV.men]) hd;refine⟨_,_,hρ,RepHL.stay hst (Moves.refl M ρ) (pU hmu hmn) hxs,hcells,?_,.inr ⟨g,cap,_,by rw[M6],F9 _,R7 w g _ _ T (0,0) hh,by simpa using hcap,hmax,?_,?_⟩⟩
 · simp only[A3,M6]at hxl⊢;omega
 ·
  rw[←hcsz,hclen]
  conv=>rhs;rw[hcur]
  simp only[I6,A3];omega
 ·
  rw[M6];simp only[A3]at hxl;have e:(d1++c1++(a.eval y).cells.toList++(c3++d3++cur.toList.drop (l.length*sz)))=(d1++(c1++(a.eval y).cells.toList++c3)++d3)++cur.toList.drop (l.length*sz):=by simp
  rw[e];refine V9 ?_;simp only[A3];omega
theorem vQ (h:RepA' c M fr ob a w ρ){x:Operand}{l:List HV}(hx:hreadA (ev fr x) ob=some l):
  ∃ad m cap xs,a.eval x= .slice ad m cap∧m=l.length∧RepHL w ρ (Owned ρ c.X) l xs∧HV.menL M l∧(ad=none→m=0)∧ ∀b,ad=some b→ ∀j u,xs[j]? =some u→w.cell? (b.add j)=some u:=by
 have cl: ∀l':List CV,hread (ev fr x) ob=some l'→l=l'.map .c→ ∃ad m cap xs,a.eval x= .slice ad m cap∧m=l.length∧RepHL w ρ (Owned ρ c.X) l xs∧HV.menL M l∧(ad=none→m=0)∧ ∀b,ad=some b→ ∀j u,xs[j]? =some u→w.cell? (b.add j)=some u:=fun l' h1 e=>by
  obtain⟨ad,m,cap,xs,e1,e2,e3,e4,e5,_⟩:=jI h h1;subst e;exact⟨ad,m,cap,xs,e1,by simpa using e2,sF.2 e3,HV.menL_c,e4,e5⟩
 unfold hreadA at hx;split at hx
 ·
  rename_i id n he;split at hx
  ·
   rename_i t sz l' ho;split at hx
   ·
    rename_i hn;cases hx;obtain⟨hd,xs,h1,h2,h3,h4,h5,h6⟩:=uN h he ho hn;have hm:=(h.mo id _ ho).2;rcases h6.2 with⟨rfl,hz⟩|⟨g,cap,cur,rfl,hg0,hg,hcap,_⟩
    · have hxs:xs=[]:=D5 (by rw[h6.1,hz];simp);exact⟨none,0,0,xs,h2,by rw[←hn,hz],h4,hm,fun _=>rfl,fun b hb=>(by cases hb)⟩
    · refine⟨some ⟨g,0,none⟩,n,cap,xs,h2,hn,h4,hm,fun hb=>(by cases hb),fun b hb=>?_⟩;cases hb;exact h6.cells (g:=g) rfl
   · cases hx
  ·
   rename_i t sz l' ho;split at hx
   · rename_i hn;cases hx;exact cl l' (by simp only[hread,he,ho,B6 hn]) rfl
   · cases hx
  · cases hx
 · rename_i l' he;cases hx;exact cl l' (by simp only[hread,he]) rfl
 · rename_i he;cases hx;exact cl [] (by simp only[hread,he]) rfl
 · cases hx
theorem qX (h:RepA' c M fr ob a w ρ){nid:Nat}(hM: ∀i,M i→M' i){t ty el:TypeId}{te:TyI}{s x:Operand}(hu:P.underlying t=some (.slice el))(hte:aT P el=some te){l2:List HV}
  (hx:hreadA (ev fr x) ob=some l2) (hc2: ∀v∈l2,v.cells=te.size∧v.sto=true) (d:Option Nat) (hd: ∀k,d=some k→k<c.n) {id n:Nat} {l:List HV} {hdv:Value} {xs:List Value} (hn:n=l.length) (hm0:HV.menL M l) (hMid:M' id)
  (hold: ¬M id∧hdv= .slice none 0 0∨ρ id=some (.hdr hdv)∧ob id=some (.hrow el te.size l)) (hse:a.eval s=hdv) (hl1:RepHL w ρ (Owned ρ c.X) l xs) (hcs: ∀v∈l,v.cells=te.size∧v.sto=true) (how:w.ownsRow 0 el te.size hdv n xs)
  (hb:(l.length+l2.length)*te.bytes≤140737488355328) (hmx:l.length+l2.length≤maxLen):
  ∃y w' ρ',(Builtin.append_ #[t,t] ty #[a.eval s,a.eval x]).run P w= .ok y w'∧RepA' c M' (updo fr d (.own id (l++l2).length)) (upd ob id (some (.hrow el te.size (l++l2)))) (a.put d y) w' ρ':=by
 subst hn;obtain⟨ie,de,zve,htye⟩:=bM hte;obtain⟨ad,m,cp,news,he,hm,hrl,hml,hnone,hcells⟩:=vQ h hx;have hnl:news.length=m*ie.size:=by rw[mC hrl (fun v hv=>(hc2 v hv).1),hm,htye.size]
 have hzs:zve.cells.size=ie.size:=by rw[htye.zsize,htye.size]
 have how0:=how;rw[←htye.size]at how;obtain⟨v',w',hrun,how',hgr,hblk,hm0'⟩:=kH (P:=P) (ty:=ty) hu htye.info htye.zero hzs hdv l.length xs how ad m cp news hnl hnone hcells (aZ9 (fun v hv=>(hc2 v hv).2) hrl) (by rw[hm];exact hmx) (by rw[hm,htye.bytes];exact hb);have hall: ∀v∈l++l2,v.cells=te.size∧v.sto=true:=fun v hv=>(F4.1 hv).elim (hcs v) (hc2 v);have hmall:HV.menL M (l++l2):=HV.menL_append.2 ⟨hm0,hml⟩;have h1c:v'.oneCell'=true:=by rcases how'.2 with⟨rfl,_⟩|⟨g,cap,cur,rfl,_⟩<;>simp[Value.oneCell']
 have hlv:Hl.hlen v'=l.length+m:=ownsRow_size how';by_cases hstep:ρ id=some (.hdr hdv)∧m=0
 ·
  obtain⟨hρ,hmz⟩:=hstep;rcases hold with⟨hnm,_⟩|⟨_,ho⟩
  · exact absurd hρ (by rw[(h.nid_none hnm).2];simp)
  obtain⟨hv',hw'⟩:=hm0' hmz;have hl2:l2=[]:=D5 (by rw[←hm];exact hmz);subst hl2;rw[hv',hw']at hrun;refine⟨_,_,ρ,by rw[hse,he];exact hrun,?_⟩;have hob:upd ob id (some (.hrow el te.size (l++[])))=ob:=by
   funext k;by_cases hk:k=id
   · subst hk;rw[aU,ho];simp
   · rw[bJ _ _ hk]
  rw[hob];have hmen:HV.men M (.own id (l++[]).length):=by simpa[HV.men]using(h.mo id _ ho).1
  have hv2:RepV w ρ (Owned ρ c.X) (.own id (l++[]).length) hdv:=by
   rw[hv']at h1c;refine dR ?_ rfl (gY h1c);simp only[RepH];refine⟨_,rfl,h1c,fun hd' h1=>?_⟩;rw[hρ]at h1;cases h1;exact⟨by simp[ownsRow_size how0],fun _=>rfl⟩
  exact(h.value (d:=d) (.inr hv2) hmen hd).weaken hM
 ·
  have hmv:Moves M ρ (upd ρ id (some (.hdr v'))):=by
   rcases hold with⟨hnm,_⟩|⟨hρ,_⟩
   · exact Moves.upd_new hnm
   ·
    intro i L' him h1;by_cases e:i=id
    · subst e;rw[aU]at h1;cases h1;exact⟨_,hρ,.inr (.inl ⟨hdv,v',rfl,rfl,by rw[ownsRow_size how0];have:m≠0:=fun e=>hstep ⟨hρ,e⟩;omega⟩)⟩
    · rw[bJ _ _ e]at h1;exact⟨L',h1,.inl rfl⟩
  refine⟨_,_,upd ρ id (some (.hdr v')),by rw[hse,he];exact hrun,?_⟩;refine h.rehdrO hM hMid (hold.imp (fun h=>h.1) fun h=>⟨hdv,h.1,by rw[ownsRow_size how0];have:m≠0:=fun e=>hstep ⟨h.1,e⟩;omega⟩) hgr.os hgr.tape hgr.output hgr.size (fun b hb' hne=>hgr.block b hb' (fun e=>?_))
   (fun g hg=>?_) h1c (by rw[hlv,A3,hm]) (fun hst=>?_) (HV.menL_mono hM hmall) hd
  ·
   rcases hold with⟨_,rfl⟩|⟨hρ,_⟩
   · simp[Value.ownBlock]at e
   · exact hne _ hρ (by simpa[Loc.has]using e.symm)
  ·
   rcases hblk with hb2|hb2
   ·
    rcases hold with⟨_,rfl⟩|⟨hρ,_⟩
    · rw[hb2]at hg;simp[Value.ownBlock]at hg
    · exact .inr ⟨_,hρ,by simpa[Loc.has]using hb2.symm.trans hg⟩
   · rw[hb2]at hg;cases hg;exact .inl (F2 _)
  · refine⟨v',xs++news,aU _ _ _,RepHL.stay hst hmv hmall (sD.2 ⟨xs,news,rfl,hl1,hrl⟩),hall,?_⟩;rw[A3,←hm,←htye.size];exact how'
theorem aA9 (h:RepA' c M fr ob a w ρ){t ty el:TypeId}{te:TyI}{s x:Operand}(hu:P.underlying t=some (.slice el))(hte:aT P el=some te){lx l:List CV}{id n m:Nat}(hs:ev fr s= .osl id n 0 te.size m)
  (ho:ob id=some (.row el te.size l)) (hx:hread (ev fr x) ob=some lx) (hn:n=l.length) (hn0:0<n) (hx0:0<lx.length) (hfit:m+lx.length≤n) (hcx: ∀v∈lx,v.cells=te.size) (d:Option Nat) (hd: ∀k,d=some k→k<c.n):
  ∃y w',(Builtin.append_ #[t,t] ty #[a.eval s,a.eval x]).run P w= .ok y w'∧RepA' c M (updo fr d (cL id n te.size (m+lx.length))) (upd ob id (some (.row el te.size (l.take m++lx++l.drop (m+lx.length))))) (a.put d y) w' ρ:=by
 obtain⟨ie,de,zve,htye⟩:=bM hte;obtain⟨g,cap,xs,hρ,he,hcap,hl2,hcs,how⟩:=sI h hs ho hn hn0;obtain⟨ad,mm,cp,news,hxe,hmm,hrl,hnone,hcells,_,_⟩:=jI h hx;rcases how.2 with⟨e,_⟩|⟨g',cap',cur,e,hg0,hg,_,hmax,hcsz,htake⟩
 · cases e
 cases e;have hnl:news.length=mm*te.size:=by rw[eN hrl hcx,hmm]
 have hxl:=how.1;cases ad with
 |none=>have:=hnone rfl;omega
 |some b=>
  have hmle:m*te.size+news.length≤cur.size:=by
   rw[hnl,hcsz,←Nat.add_mul];exact I8 _ (by omega)
  have hsv:a.eval s= .slice (some ⟨g,0,none⟩) m cap:=by rw[he];simp
  have hrun:=run_append_room (P:=P) w t ty el ie hu htye.info g m cap cur hg b mm cp news (by rw[hnl,htye.size]) (hcells b rfl) (jS hrl) (by omega) (by rw[htye.size];exact hmle);rw[htye.size]at hrun;refine⟨_,_,by rw[hsv,hxe];exact hrun,?_⟩;have hlen:(l.take m++lx++l.drop (m+lx.length)).length=n:=by simp;omega
  have hnew:RepL w (Owned ρ c.X) (l.take m++lx++l.drop (m+lx.length)) (xs.take (m*te.size)++news++xs.drop ((m+lx.length)*te.size)):=
   eQ.2 ⟨_,_,rfl,eQ.2 ⟨_,_,rfl,gF m hl2 hcs,hrl⟩,iL _ hl2 hcs⟩
  have hcall: ∀v∈l.take m++lx++l.drop (m+lx.length),v.cells=te.size:=fun v hv=>by
   rcases F4.1 hv with hv|hv
   ·
    rcases F4.1 hv with hv|hv
    · exact hcs v (H5 hv)
    · exact hcx v hv
   · exact hcs v (G1 hv)
  have hmn:(m+lx.length)*te.size≤n*te.size:=I8 _ hfit;have hk:(m+lx.length)*te.size=m*te.size+news.length:=by rw[hnl,hmm,K0]
  have hcurl:cur.toList.length=cap*te.size:=by simpa using hcsz
  have hcn:n*te.size≤cap*te.size:=I8 _ hcap;have hm2:m*te.size≤n*te.size:=I8 _ (by omega);have hx1:xs.take (m*te.size)=cur.toList.take (m*te.size):=by rw[←htake,R9,G5 hm2]
  have hx2:xs.drop ((m+lx.length)*te.size)=(cur.toList.drop (m*te.size+news.length)).take (n*te.size-(m*te.size+news.length)):=by rw[←htake,hk,AJ]
  refine h.setObj (b0:=g) hρ (by simp[Loc.has,Value.ownBlock]) (h.mo id _ ho).1 (fun b' hb'=>Q6 w g b' _ hb') (V6 _ _ _) rfl rfl rfl (fun hst=>?_) trivial (fun hst=> .inr ?_) ?_ hd
  ·
   refine⟨_,_,hρ,hnew.stay hst,hcall,?_⟩;rw[hlen];refine⟨?_,.inr ⟨g,cap,_,rfl,hg0,R7 w g _ _ el (0,0) hg,hcap,hmax,?_,?_⟩⟩
   · simp only[A3,D9,B8,hxl];omega
   · simp only[I6,A3,D9,B8,hcurl];omega
   · rw[hx1,hx2];simp only[List.take_append,A3,D9,hcurl];rw[E6 (l:=List.take (m*te.size) cur.toList) (by simp;omega),E6 (l:=news) (by omega)];congr 2;congr 1;omega
  ·
   unfold cL;by_cases hc:m+lx.length=n
   · rw[B6 hc];refine dR ?_ rfl rfl;simp only[RepH];refine⟨_,rfl,by simp[Value.oneCell'],fun hd' h1=>?_⟩;rw[hρ]at h1;cases h1;exact⟨by simp[Hl.hlen],fun _=>by rw[hmm,hc]⟩
   · rw[A7 hc];refine dR ?_ rfl rfl;simp only[RepH];refine⟨_,rfl,by simp[Value.oneCell'],fun hd' h1=>?_,fun b' h1=>by rw[hρ]at h1;cases h1⟩;rw[hρ]at h1;cases h1;refine⟨by simp[Hl.hlen],fun _ g' cap' e'=>?_⟩;cases e';simp[hmm]
  · have hid:=(h.mo id _ ho).1;unfold cL;split<;>simpa[HV.men]using hid
theorem bA2 (h:RepA' c M fr ob a w ρ){nid:Nat}(hn: ¬M nid)(hM: ∀i,M i→M' i)(hM':M' nid){o:Oper}{K:HV→Ob→Prop}(hl:hopH P nid o.op (ev fr) ob K)(hd: ∀k,o.dst=some k→k<c.n):
  Gives P o a w fun y w'=> ∃v ob' ρ',K v ob'∧RepA' c M' (updo fr o.dst v) ob' (a.put o.dst y) w' ρ':=by
 have valq: ∀{v:HV} {y:Value},K v ob→(execOp a.eval o).run P w= .ok (.value y) w→RepV w ρ (Owned ρ c.X) v y→v.men M→
   Gives P o a w fun y w'=> ∃v ob' ρ',K v ob'∧RepA' c M' (updo fr o.dst v) ob' (a.put o.dst y) w' ρ':=fun hK hr hv hm=>
  .val hr ⟨_,_,_,hK,(h.value (.inr hv) hm hd).weaken hM⟩
 have live: ∀{x:Operand} {id n i sz off:Nat},ev fr x= .eptr id n i sz off→HO.isH n (ob id)→ ∃g cap,ρ id=some (.hdr (.slice (some ⟨g,0,none⟩) n cap))∧a.eval x= .pointer (some ⟨g,i*sz+off,none⟩):=fun {x id n i sz off} hx hb=>by
  unfold HO.isH at hb;grind[rJ]
 unfold hopH at hl;split at hl
 ·
  rename_i t len parts ho;rw[aD]at hl;obtain⟨ti,ht,hl⟩:=hl;split at hl
  · rename_i el hde;rw[aD]at hl;obtain⟨te,hte,hl⟩:=hl;rw[aD]at hl;obtain⟨l,hcl,⟨h1,h2⟩,hK⟩:=hl;obtain⟨y,w',ρ',hr,hA⟩:=aJ7 h hn hM hM' ht hde hte hcl h1 h2 o.dst hd;exact .val (by simp[execOp,ho,hr]) ⟨_,_,_,hK,hA⟩
  grind
 ·
  rename_i t x ho;rw[aD]at hl;obtain⟨ti,ht,hl⟩:=hl;split at hl
  ·
   rename_i id n i sz off hx;split at hl
   · rename_i T sz' l hob;obtain⟨⟨h1,h2,h3⟩,hl⟩:=hl;rw[aD]at hl;obtain⟨u,hg,hK⟩:=hl;obtain⟨y,hr,hv,hm⟩:=aQ7 h ht hx hob h1 h2 h3 hg;exact valq hK (by simp[execOp,ho,hr]) hv hm
   grind
  grind
 ·
  rename_i t x y ho;rw[aD]at hl;obtain⟨ti,ht,hl⟩:=hl;split at hl
  ·
   rename_i id n i sz off hx;split at hl
   · rename_i T sz' l hob;obtain⟨⟨h1,h2,h3,h4,h5⟩,hl⟩:=hl;rw[aD]at hl;obtain⟨u,hg,hK⟩:=hl;obtain⟨w',hr,hA⟩:=aJ8 h ht hx hob h1 h2 h3 h4 h5 hg;exact⟨undef,w',⟨_,_,_,hK,(hA o.dst undef hd).weaken hM⟩,.inr ⟨by simp[execOp,ho,hr],rfl⟩⟩
   grind
  grind
 ·
  rename_i x ho;split at hl
  · rename_i id n i sz off hx;obtain⟨g,cap,hρ,he⟩:=live hx hl.1;have hm:=h.evm x;rw[hx]at hm;exact valq hl.2 (by simp[execOp,ho,he]) (iJ hρ) hm
  grind
 ·
  rename_i t x f ho;obtain⟨fs,fd,tf,i,d,zv,hu,hf,hty,hK⟩:=uH hl;have hp:0<i.size:=by rw[hty.size];exact hty.pos
  split at hK
  · rename_i id n j sz off hx;obtain⟨g,cap,hρ,he⟩:=live hx hK.1;have hm:=h.evm x;rw[hx]at hm;refine valq hK.2 (y:= .pointer (some ⟨g,j*sz+(off+fd.offset),none⟩)) ?_ (iJ hρ) (by simpa[HV.men]using hm);simp[execOp,ho,he,Instr.fieldAt,D3 hu,hf,Instr.sureAddr,oE hty.info hp,eU,S9]
  grind
 ·
  rename_i t x ix ho;rw[aD]at hl;obtain⟨ti,ht,hl⟩:=hl;obtain⟨i0,d0,zv0,hty⟩:=bM ht;split at hl
  ·
   rename_i el k i hd1 hix;have hdd:=hty.d_;rw[hd1]at hdd;have hu:P.underlying t=some (.slice el):=by
    rw[hty.under];congr 1;cases d0<;>simp[tyd]at hdd;rw[hdd]
   rw[aD]at hl;obtain⟨te,hte,hl⟩:=hl;obtain⟨ie,de,zve,htye⟩:=bM hte;split at hl
   ·
    rename_i id n hx;split at hl
    ·
     rename_i T sz l hob;obtain⟨⟨h1,h2⟩,⟨h3,h4⟩,hK⟩:=hl;obtain⟨hd',xs,hρ,he,hlen,hl2,hcs,how⟩:=uN h hx hob h1;have hm:=h.evm x;rw[hx]at hm;have hsz:(sizeOf el).run P w= .ok te.size w:=by rw[cD htye.info,htye.size]
     rcases how.2 with⟨rfl,hz⟩|⟨g,cap,cur,rfl,_⟩
     · omega
     · refine valq hK (y:= .pointer (some (⟨g,i.toNat*sz+0,none⟩))) ?_ (iJ hρ) (by simpa[HV.men]using hm);simp[execOp,ho,he,eI h hix,Instr.indexAt,asIntOf,D3 hu,h3,h4,hsz,h2,eU]
    · exact hl.elim
   · exact hl.elim
  grind
 ·
  rename_i t x lo hi ho;rw[aD]at hl;obtain⟨ti,ht,hl⟩:=hl;obtain⟨i0,d0,zv0,hty⟩:=bM ht;split at hl
  ·
   rename_i el id n l0 sz m hd1 hx;have hdd:=hty.d_;rw[hd1]at hdd;have hu:P.underlying t=some (.slice el):=by rw[hty.under];congr 1;cases d0<;>simp[tyd]at hdd;rw[hdd]
   split at hl
   ·
    rename_i T sz' L hob;rw[aD]at hl;obtain⟨te,hte,⟨rfl,hn,hn0,rfl,rfl,hmn⟩,hl⟩:=hl;obtain⟨ie,de,zve,htye⟩:=bM hte;rw[aD]at hl;obtain⟨lo',hlo,hl⟩:=hl;rw[aD]at hl;obtain⟨hi',hhi,hb,hK⟩:=hl;obtain⟨g,cap,xs,hρ,he,hcap,hl2,hcs,how⟩:=sI h hx hob hn hn0;have hev:a.eval x= .slice (some ⟨g,0,none⟩) m cap:=by rw[he];simp
    have hbr:=dJ (P:=P) (w:=w) (a:=a) true m cap (mA h hlo) (mA h hhi) hb (by omega);have hsz:(sizeOf el).run P w= .ok te.size w:=by rw[cD htye.info,htye.size]
    have hid:=h.evm x;rw[hx]at hid;refine valq hK (y:= .slice (if cap=lo'.toNat then some ⟨g,0,none⟩else(some (⟨g,0,none⟩:Addr)).map (·.add (lo'.toNat*te.size))) (hi'.toNat-lo'.toNat) (cap-lo'.toNat)) ?_ ?_ (by simpa[HV.men]using hid)
    ·
     have:(Instr.sliceAt t (a.eval x) (lo.map a.eval) (hi.map a.eval) none).run P w= .ok (.slice (if cap=lo'.toNat then some ⟨g,0,none⟩else(some (⟨g,0,none⟩:Addr)).map (·.add (lo'.toNat*te.size))) (hi'.toNat-lo'.toNat) (cap-lo'.toNat)) w:=by
      rw[hev];simp only[Instr.sliceAt,F8,D3 hu,E4,Instr.slice,hbr,hsz,I5]
     simp[execOp,ho,this]
    ·
     refine dR ?_ rfl rfl;simp only[RepH];refine⟨_,rfl,by simp[Value.oneCell'],fun hd' h1=>?_,fun b h1=>by rw[hρ]at h1;cases h1⟩;rw[hρ]at h1;cases h1;refine⟨by simp[Hl.hlen],fun _ g' cap' e'=>?_⟩;cases e';congr 1;by_cases hc:cap=lo'.toNat
     · simp[hc]
     ·
      simp only[hc,J2,H8,D6];by_cases hz:lo'.toNat*te.size=0
      · simp[Addr.add,hz]
      · simp[Addr.add,hz]
   · exact hl.elim
  ·
   rename_i el id n hd1 hx;have hdd:=hty.d_;rw[hd1]at hdd;have hu:P.underlying t=some (.slice el):=by rw[hty.under];congr 1;cases d0<;>simp[tyd]at hdd;rw[hdd]
   split at hl
   ·
    rename_i T sz' L hob;rw[aD]at hl;obtain⟨te,hte,hn,hl⟩:=hl;obtain⟨ie,de,zve,htye⟩:=bM hte;rw[aD]at hl;obtain⟨lo',hlo,hl⟩:=hl;rw[aD]at hl;obtain⟨hi',hhi,⟨rfl,hb0,hbn⟩,hK⟩:=hl;obtain⟨hd',xs,hρ,he,hlen,_,_,how⟩:=mM h hx hob hn;have hsz:(sizeOf el).run P w= .ok te.size w:=by rw[cD htye.info,htye.size]
    have hid:=h.evm x;rw[hx]at hid;rcases how.2 with⟨rfl,hz⟩|⟨g,cap,cur,rfl,_,_,hcap,_⟩
    ·
     subst hz;have hbr:=dJ (P:=P) (w:=w) (a:=a) true 0 0 (mA h hlo) (mA h hhi) (by omega) (by omega);have h0:hi'.toNat=0:=by omega
     refine valq hK (y:= .slice none 0 0) ?_ ?_ (by rw[h0];simpa[cL,HV.men]using hid)
     ·
      have:(Instr.sliceAt t (a.eval x) (lo.map a.eval) (hi.map a.eval) none).run P w= .ok (.slice none 0 0) w:=by
       rw[he];simp only[Instr.sliceAt,F8,D3 hu,E4,Instr.slice,hbr,hsz,I5];simp[h0]
      simp[execOp,ho,this]
     · rw[h0,show cL id 0 te.size 0= .own id 0 from rfl];refine dR ?_ rfl rfl;simp only[RepH];exact⟨_,rfl,by simp[Value.oneCell'],fun hd2 h1=>by rw[hρ]at h1;cases h1;exact⟨by simp[Hl.hlen],fun _=>rfl⟩⟩
    ·
     have hbr:=dJ (P:=P) (w:=w) (a:=a) true n cap (mA h hlo) (mA h hhi) (by omega) hcap;refine valq hK (y:= .slice (some ⟨g,0,none⟩) hi'.toNat cap) ?_ ?_ (by unfold cL;split<;>simpa[HV.men]using hid)
     ·
      have:(Instr.sliceAt t (a.eval x) (lo.map a.eval) (hi.map a.eval) none).run P w= .ok (.slice (some ⟨g,0,none⟩) hi'.toNat cap) w:=by
       rw[he];simp only[Instr.sliceAt,F8,D3 hu,E4,Instr.slice,hbr,hsz,I5];simp[Addr.add]
      simp[execOp,ho,this]
     ·
      unfold cL;split
      · rename_i hnn;refine dR ?_ rfl rfl;simp only[RepH];exact⟨_,rfl,by simp[Value.oneCell'],fun hd2 h1=>by rw[hρ]at h1;cases h1;rw[hnn];exact⟨by simp[Hl.hlen],fun _=>rfl⟩⟩
      · refine dR ?_ rfl rfl;simp only[RepH];refine⟨_,rfl,by simp[Value.oneCell'],fun hd2 h1=>?_,fun b h1=>by rw[hρ]at h1;cases h1⟩;rw[hρ]at h1;cases h1;refine⟨by simp[Hl.hlen],fun _ g' cap' e'=>?_⟩;cases e';simp
   · exact hl.elim
  grind
 ·
  rename_i t x y ho;split at hl
  ·
   rename_i id z hx hy;split at hl
   ·
    rename_i es ck hob;obtain⟨l,rfl,⟨kt,et,hut,hkt,hz⟩,hK⟩:=hl;obtain⟨b,h1,h2,h3⟩:=cR2 h hx hob;obtain⟨r,f1,f2⟩:=yC z 0 0 l;have f3:Instr.findNow (.int .i64) (.int .i64 z) (cR1 l).toList 0=some r:=by simpa[cR1]using f1
    refine valq hK (y:= .tuple #[.string ⟨((lkG l z).getD []).toArray⟩,.bool (lkG l z).isSome]) ?_ ?_ (by simp[HV.men,HV.menL])
    ·
     cases hl:lkG l z with
     |none=>
      rw[hl]at f2;have hr:r=none:=by cases r with|none=>rfl|some x=>simp at f2
      subst hr;simp[execOp,ho,h2,eI h hy,Instr.lookup,D3 hut,N5 h3,bV0 hkt,Instr.findKey,D3 hkt,f3,hz,Result.andThen]
     |some s=>
      rw[hl]at f2;obtain⟨j,rfl⟩: ∃j,r=some (j,.string ⟨s.toArray⟩):=by
       cases r with
       |none=>simp at f2
       |some x=>obtain⟨j,v⟩:=x;simp at f2;exact⟨j,by rw[f2]⟩
      simp[execOp,ho,h2,eI h hy,Instr.lookup,D3 hut,N5 h3,bV0 hkt,Instr.findKey,D3 hkt,f3,Result.andThen]
    · refine⟨?_,rfl⟩;simp only[RepH];exact⟨[_,_],rfl,by simp only[RepHV];exact⟨_,_,rfl,dD (by simp[RepC]) rfl rfl,_,_,rfl,dD (by simp[RepC]) rfl rfl,rfl⟩⟩
   · exact hl.elim
  · exact hl.elim
 ·
  rename_i cl ho;split at hl
  ·
   rename_i x t hcal hargs hat;have hargs':cl.args= #[x]:=by grind
   have hat':cl.argTypes= #[t]:=by grind
   rw[aD]at hl;obtain⟨ti,ht,hl⟩:=hl;obtain⟨i0,d0,zv0,hty⟩:=bM ht;split at hl
   ·
    rename_i el hd1;have hdd:=hty.d_;rw[hd1]at hdd;have hu:P.underlying t=some (.slice el):=by rw[hty.under];congr 1;cases d0<;>simp[tyd]at hdd;rw[hdd]
    rw[aD]at hl;obtain⟨l,hl1,hK⟩:=hl;have hA1:hreadA (ev fr x) ob=some l:=by
     unfold hreadH at hl1;split at hl1
     ·
      rename_i hx2;split at hl1
      · rename_i ho2;simp only[hreadA,hx2,ho2];exact hl1
      · cases hl1
     · cases hl1
    obtain⟨ad,m,cap,xs,he,hm,_⟩:=vQ h hA1;refine valq hK ?_ (eV _ _ _ _ _) (by simp[HV.men]);simp[execOp,ho,resolve,hcal,hargs',hat',invoke,builtin,Builtin.len_,D3 hu,he,goInt,hm]
   · exact hl.elim
  ·
   rename_i s x t t' hcal hargs hat;have hargs':cl.args= #[s,x]:=by grind
   have hat':cl.argTypes= #[t,t']:=by grind
   rw[aD]at hl;obtain⟨ti,ht,hl⟩:=hl;obtain⟨i0,d0,zv0,hty⟩:=bM ht;split at hl
   ·
    rename_i el hd1;have hdd:=hty.d_;rw[hd1]at hdd;have hu:P.underlying t=some (.slice el):=by rw[hty.under];congr 1;cases d0<;>simp[tyd]at hdd;rw[hdd]
    rw[aD]at hl;obtain⟨te,hte,hl⟩:=hl;split at hl
    ·
     rename_i id n lo sz m hs;split at hl
     · rename_i e' sz' l hob;rw[aD]at hl;obtain⟨lx,hx,⟨rfl,h1,h2,rfl,rfl,rfl,rfl,h3,h4⟩,hcx,hK⟩:=hl;obtain⟨y,w',hr,hA⟩:=aA9 (ty:=o.type) h hu hte hs hob hx h1 h2 h3 h4 hcx o.dst hd;exact .val (by simp[execOp,ho,resolve,hcal,hargs',hat',invoke,builtin,hr]) ⟨_,_,_,hK,hA.weaken hM⟩
     · exact hl.elim
    ·
     rename_i id n hs;rw[aD]at hl;obtain⟨l2,hx,⟨rfl,hc2⟩,hl⟩:=hl;split at hl
     · rename_i e' sz l hob;obtain⟨⟨rfl,rfl,rfl⟩,hb,hmx,hK⟩:=hl;obtain⟨hdv,xs,hρ,hse,hlen,hl1,hcs,how⟩:=uN h hs hob rfl;obtain⟨y,w',ρ',hr,hA⟩:=qX (nid:=nid) (ty:=o.type) h hM hu hte hx hc2 o.dst hd rfl (h.mo id _ hob).2 (hM _ (h.mo id _ hob).1) (.inr ⟨hρ,hob⟩) hse hl1 hcs how hb hmx;exact .val (by simp[execOp,ho,resolve,hcal,hargs',hat',invoke,builtin,hr]) ⟨_,_,_,hK,hA⟩
     · exact hl.elim
    · rename_i hs;rw[aD]at hl;obtain⟨l2,hx,⟨rfl,hc2⟩,hl⟩:=hl;obtain⟨hb,hmx,hK⟩:=hl;obtain⟨y,w',ρ',hr,hA⟩:=qX (nid:=nid) (ty:=o.type) (s:=s) (l:=[]) (xs:=[]) h hM hu hte hx hc2 o.dst hd rfl (by simp[HV.menL]) hM' (.inl ⟨hn,rfl⟩) (xB h hs) (by simp[RepHL]) (by simp) (Y4 w 0 el te.size) hb (by simpa using hmx);exact .val (by simp[execOp,ho,resolve,hcal,hargs',hat',invoke,builtin,hr]) ⟨_,_,_,hK,hA⟩
    · exact hl.elim
   · exact hl.elim
  grind
 grind
end
def iM (nid:Nat)(o:Op)(e:Operand→HV):Option Nat:=
 match o with
 | .buildSlice _ _ _=>some nid
 | .call c=>match c.callee,c.args.toList with
  | .builtin .append,[s,_]=>match e s with
   | .own id _=>some id
   | .c .nils=>some nid
   |_=>none
  |_,_=>none
 |_=>none
def bA3 (id:Nat)(ob:Ob)(K:HV→Ob→Prop):HV→Ob→Prop:=fun v ob'=> ∃n el sz l,v= .own id n∧ob'=upd ob id (some (.row el sz l))∧n=l.length∧K (.c (.slc l)) (upd ob id (some .dead))
def aJ9 (P:Program)(nid:Nat)(o:Op)(e:Operand→HV)(ob:Ob)(K:HV→Ob→Prop):Prop:=
 hop P nid o e ob K∨(∃id,iM nid o e=some id∧hop P nid o e ob (bA3 id ob K))∨hopH P nid o e ob K
variable {id:Nat}
theorem cR4 (hm:iM nid o e=some id)(h:hop P nid o e ob K):
  ∃n el sz l,K (.own id n) (upd ob id (some (.row el sz l)))∧(∀ob':Ob,(∀i∈touch o e,ob' i=ob i)→ ∀K':HV→Ob→Prop,K' (.own id n) (upd ob' id (some (.row el sz l)))→hop P nid o e ob' K')∧
   (id=nid∨(isEff o=true∧id∈touch o e))∧cE o=false:=by
 unfold iM at hm;split at hm
 ·
  rename_i t len ps;cases hm;simp only[hop]at h;rw[aD]at h;obtain⟨ti,ht,h⟩:=h;split at h
  · rename_i el hd;rw[aD]at h;obtain⟨te,hte,h⟩:=h;rw[aD]at h;obtain⟨l,hl,h1,hK⟩:=h;refine⟨len,el,te.size,l,hK,fun ob' _ K' hK'=>?_,.inl rfl,rfl⟩;grind[hop,hlift_some]
  grind
 ·
  rename_i cl;split at hm
  ·
   rename_i s x hcal hargs;split at hm
   ·
    rename_i id' n hs;cases hm;unfold hop at h;simp only[hcal,hargs]at h;split at h;all_goals first|(exact h.elim)|skip
    · grind
    ·
     rename_i s' x' t t' _ e2 hat;cases e2;have htouch:touch (.call cl) e=(e s).ids++(e x).ids:=by simp only[touch,hcal,hargs,I1,K5,J6]
     by_cases htt:t'=t
     case neg=>
      rw[A7 htt]at h;unfold happends at h;rw[aD]at h;obtain⟨ti,ht,h⟩:=h;rw[aD]at h;obtain⟨tu,htu,h⟩:=h;split at h
      ·
       rename_i el bs hd1 hd2 hx;rw[aD]at h;obtain⟨te,hte,hc2,h⟩:=h;rw[hs]at h;simp only at h;split at h
       · rename_i e' sz l ho;refine⟨_,_,_,_,h.2.2.2,fun ob' hag K' hK'=>?_,.inr ⟨by simp only[isEff,hcal],by rw[htouch,hs];simp[HV.ids]⟩,by simp[cE,hcal]⟩;have hoid:=hag id (by rw[htouch,hs];simp[HV.ids]);simp only[hop,hcal,hargs,hat];rw[A7 htt];simp only[happends,ht,htu,hlift_some,hd1,hd2,hx,hte,hs,hoid,ho];exact⟨hc2,h.1,h.2.1,h.2.2.1,hK'⟩
       · exact h.elim
      · exact h.elim
     rw[B6 htt]at h;have e2: ∀(ob':Ob) (K':HV→Ob→Prop),happend2 P t (e s) (e x) nid ob' K'=happend P t (e s) (e x) nid ob' K':=fun ob' K'=>by grind[happend2]
     rw[e2]at h;unfold happend at h;rw[aD]at h;obtain⟨ti,ht,h⟩:=h;split at h
     ·
      rename_i el hd1;rw[aD]at h;obtain⟨te,hte,h⟩:=h;rw[aD]at h;obtain⟨l2,hl2,hc2,h⟩:=h;rw[hs]at h;simp only at h;split at h
      · rename_i e' sz l ho;refine⟨_,_,_,_,h.2.2.2,fun ob' hag K' hK'=>?_,.inr ⟨by simp only[isEff,hcal],by grind[HV.ids]⟩,by simp[cE,hcal]⟩;simp only[hop,hcal,hargs,hat];rw[B6 htt];rw[e2];simp only[happend,ht,hlift_some,hd1,hte];rw[fO (fun i hi=>hag i (by rw[htouch];exact J5 _ hi)),hl2];simp only[hlift_some,hs];rw[hag id (by rw[htouch,hs];simp[HV.ids]),ho];exact⟨hc2,h.1,h.2.1,h.2.2.1,hK'⟩
      · exact h.elim
     · exact h.elim
    all_goals(rename_i e1 _ _;cases e1)
   ·
    rename_i hs;cases hm;unfold hop at h;simp only[hcal,hargs]at h;split at h;all_goals first|(exact h.elim)|skip
    · grind
    ·
     rename_i s' x' t t' _ e2 hat;cases e2;have htouch:touch (.call cl) e=(e s).ids++(e x).ids:=by simp only[touch,hcal,hargs,I1,K5,J6]
     by_cases htt:t'=t
     case neg=>
      rw[A7 htt]at h;unfold happends at h;rw[aD]at h;obtain⟨ti,ht,h⟩:=h;rw[aD]at h;obtain⟨tu,htu,h⟩:=h;split at h
      · rename_i el bs hd1 hd2 hx;rw[aD]at h;obtain⟨te,hte,hc2,h⟩:=h;rw[hs]at h;exact h.elim
      · exact h.elim
     rw[B6 htt]at h;have e2: ∀(ob':Ob) (K':HV→Ob→Prop),happend2 P t (e s) (e x) nid ob' K'=happend P t (e s) (e x) nid ob' K':=fun ob' K'=>by grind[happend2]
     rw[e2]at h;unfold happend at h;rw[aD]at h;obtain⟨ti,ht,h⟩:=h;split at h
     · rename_i el hd1;rw[aD]at h;obtain⟨te,hte,h⟩:=h;rw[aD]at h;obtain⟨l2,hl2,hc2,h⟩:=h;rw[hs]at h;simp only at h;refine⟨_,_,_,_,h.2.2,fun ob' hag K' hK'=>?_,.inl rfl,by simp[cE,hcal]⟩;simp only[hop,hcal,hargs,hat];rw[B6 htt];rw[e2];simp only[happend,ht,hlift_some,hd1,hte];rw[fO (fun i hi=>hag i (by rw[htouch];exact J5 _ hi)),hl2];simp only[hlift_some,hs];exact⟨hc2,h.1,h.2.1,hK'⟩
     · exact h.elim
    all_goals(rename_i e1 _ _;cases e1)
   grind
  grind
 grind
theorem yD (h:aJ9 P nid o e ob K):
  ∃v u,K v (app u ob)∧(∀ob':Ob,(∀id∈touch o e,ob' id=ob id)→ ∀K':HV→Ob→Prop,K' v (app u ob')→aJ9 P nid o e ob' K')∧(∀p,u=some p→p.1=nid∨(isEff o=true∧p.1∈touch o e))∧(cE o=true→u=none):=by
 rcases h with h|⟨id,hm,h⟩|h
 rotate_left 2
 · obtain⟨v,u,h1,h2,h3,h4⟩:=bA0 h;exact⟨v,u,h1,fun ob' hag K' hK'=> .inr (.inr (h2 ob' hag K' hK')),h3,h4⟩
 · obtain⟨v,u,h1,h2,h3,h4⟩:=aD1 h;exact⟨v,u,h1,fun ob' hag K' hK'=> .inl (h2 ob' hag K' hK'),h3,h4⟩
 ·
  obtain⟨n,el,sz,l,hK,hst,hloc,hq⟩:=cR4 hm h;obtain⟨n',el',sz',l',hv,hob,hn,hK'⟩:=hK;cases hv;have hrow:some (HO.row el sz l)=some (HO.row el' sz' l'):=by
   have:=congrFun hob id;simp_all
  cases hrow;refine⟨.c (.slc l),some (id,.dead),hK',fun ob' hag K'' hK''=> .inr (.inl ⟨id,hm,hst ob' hag _ ⟨n,el,sz,l,rfl,rfl,hn,hK''⟩⟩),fun p hp=>?_,fun hq'=>?_⟩;all_goals grind
theorem pW (h:aJ9 P nid o e ob K):
  ∃v u,K v (app u ob)∧(∀ob':Ob,(∀id∈touch o e,ob' id=ob id)→ ∀K':HV→Ob→Prop,K' v (app u ob')→aJ9 P nid o e ob' K')∧(∀p,u=some p→p.1=nid∨(isEff o=true∧p.1∈touch o e)):=
 let⟨v,u,h1,h2,h3,_⟩:=yD h
 ⟨v,u,h1,h2,h3⟩
theorem RepA'.die {c:Ctx}{M:Nat→Prop}{fr:Fr}{a:Act}{w:World}{ρ:Env}{d:Option Nat}{n sz:Nat}{el:TypeId}{l:List CV}
  (h:RepA' c M (updo fr d (.own id n)) (upd ob id (some (.row el sz l))) a w ρ) (hn:n=l.length): ∃ρ2,RepA' c M (updo fr d (.c (.slc l))) (upd ob id (some .dead)) a w ρ2:=by
 let ρ2:Env:=fun i=>if i=id then none else ρ i
 have hρ2: ∀i L,ρ2 i=some L→ρ i=some L:=fun i L hL=>by grind
 have hcl: ∀i∈[id],ρ2 i=none:=fun i hi=>by grind
 have hown: ∀b,Own ρ2 b→Own ρ b:=fun b ⟨i,L,h1,h2⟩=>⟨i,L,hρ2 i L h1,h2⟩;have hst:Stay w (Owned ρ c.X) w (Owned ρ2 c.X):=Stay.same (fun b _ hb=>hb.imp (fun x=>x) (hown b));have hmv:Moves M ρ ρ2:=fun i L _ hL=>⟨L,hρ2 i L hL,.inl rfl⟩;refine⟨ρ2,⟨fun i o ho=>?_,fun i hi=>?_,fun i i' L L' b h1 h2 h3 h4=>h.s.apart i i' L L' b (hρ2 _ _ h1) (hρ2 _ _ h2) h3 h4,fun i L b h1 h2=>h.s.xb i L b (hρ2 _ _ h1) h2⟩,fun t ht=>?_,fun t=>?_,fun i o ho=>?_,h.m0,?_,?_,h.defers,h.size,h.xlt⟩
 ·
  by_cases e:i=id
  · subst e;rw[aU]at ho;cases ho;show ρ2 i=none;grind
  ·
   rw[bJ _ _ e]at ho;have hid:ρ2 i=ρ i:=by simp only[ρ2,e,J2]
   have hin:upd ob id (some (.row el sz l)) i=some o:=by rw[bJ _ _ e];exact ho
   exact RepO.stay hst hmv (h.mo i o hin).2 hid (fun _ _ _ _=>rfl) (h.s.objs i o hin)
 ·
  by_cases e:i=id
  · grind
  ·
   have hin:upd ob id (some (.row el sz l)) i=none:=by rw[bJ _ _ e]at hi⊢;exact hi
   have:=h.s.none i hin;grind
 ·
  by_cases e:d=some t
  ·
   subst e;have h0:=h.f t (by simp[updo,upd]);simp only[updo,aU]at h0⊢;have:=jJ (cl:=[id]) h.s hcl hρ2 hst h0.1;have ec:HV.close (upd ob id (some (.row el sz l))) [id] (.own id n)= .c (.slc l):=by simp[HV.close,aU,hn]
   rw[ec]at this;exact⟨this,by rw[←h0.2];rfl⟩
  ·
   have e1: ∀v:HV,updo fr d v t=fr t:=fun v=>by
    cases d with
    |none=>rfl
    |some k=>exact bJ _ _ (fun e'=>e (by rw[e']))
   rw[e1]at ht⊢;have h0:=h.f t (by grind);rw[e1]at h0;have hm:=h.mf t;rw[e1]at hm;exact⟨RepH.stay hst hmv hm h0.1,h0.2⟩
 ·
  cases d with
  |none=>exact h.mf t
  |some k=>
   by_cases e:t=k
   · simp_all[updo,aU,HV.men]
   · have:=h.mf t;simp_all[updo,bJ]
 ·
  by_cases e:i=id
  · subst e;rw[aU]at ho;cases ho;exact⟨(h.mo i _ (aU _ _ _)).1,trivial⟩
  ·
   have hin:upd ob id (some (.row el sz l)) i=some o:=by rw[bJ _ _ e]at ho⊢;exact ho
   exact h.mo i o hin
 · exact h.base.trans ⟨fun _ _ _=>rfl,fun b hb=> .inl (hown b hb),F2 _,rfl,rfl,rfl⟩
 · exact Moves.trans (fun _ h=>h) h.moves (fun i L _ hL=>⟨L,hρ2 i L hL,.inl rfl⟩)
end Go.Hl
