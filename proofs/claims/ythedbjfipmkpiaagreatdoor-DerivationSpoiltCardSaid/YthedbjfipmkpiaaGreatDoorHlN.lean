/- HL, part N: regions, in the order of the text and in whatever order. By an AI agent. -/
import Derived.Test.YthedbjfipmkpiaaGreatDoorHlEs
set_option linter.unusedSimpArgs false
set_option linter.unusedVariables false
set_option linter.defProp false
namespace Go.Hl
open Go
def mM (l:List HV)(i:Nat):HV:=l.getD i .junk
theorem nthH_zero (v:HV)(l:List HV):mM (v::l) 0=v:=rfl
theorem nthH_succ (v:HV)(l:List HV)(i:Nat):mM (v::l) (i+1)=mM l i:=by simp[mM]
theorem bU0 (l:List HV)(v:HV):mM (l++[v]) l.length=v:=by simp[mM]
theorem pR {l:List HV}{i:Nat}(h:i<l.length):mM l i∈l:=by simp[mM,h]
theorem aB3 {M:Nat→Prop}: ∀{l:List HV} {v:HV},HV.menL M l→v∈l→v.men M
 |u::l,v,h,I=>by
  simp only[HV.menL]at h;rcases E0.1 I with rfl|I
  · grind
  · exact aB3 h.2 I
theorem wR {M:Nat→Prop}{u:HV}(hu:u.men M): ∀{l:List HV} {i:Nat},HV.menL M l→HV.menL M (l.set i u)
 |[],i,h=>by grind
 |v::l,0,h=>by grind[HV.menL]
 |v::l,i+1,h=>by simp only[HV.menL,N8]at h⊢;exact⟨h.1,wR hu h.2⟩
section
variable {w:World}{ρ:Env}{O:Nat→Prop}{sz:Nat}
theorem wS {u:HV}: ∀{l:List HV} {cs:List Value} {i:Nat},RepHL w ρ O l cs→(∀v∈l,v.cells=sz)→i<l.length→
  ∃J U c3,cs=J++U++c3∧J.length=i*sz∧RepH w ρ O (mM l i) U∧ ∀I,RepH w ρ O u I→RepHL w ρ O (l.set i u) (J++I++c3)
 |[],cs,i,_,_,hi=>by grind
 |v::vs,cs,0,h,_,_=>by
  simp only[RepHL]at h;obtain⟨J,U,rfl,h1,h2⟩:=h;exact⟨[],J,U,by simp,by simp,by simpa[mM]using h1,fun I h'=>by grind[RepHL]⟩
 |v::vs,cs,i+1,h,hc,hi=>by
  simp only[RepHL]at h;obtain⟨J,U,rfl,h1,h2⟩:=h;obtain⟨d1,d2,d3,rfl,e1,e2,e3⟩:=wS (i:=i) h2 (fun v hv=>hc v (by grind)) (by grind);refine⟨J++d1,d2,d3,by simp,?_,by simpa[mM]using e2,fun I h'=>?_⟩
  · rw[A3,bR h1,hc v (by simp),e1,N0];omega
  · simp only[N8,RepHL];exact⟨J,d1++I++d3,by simp,h1,e3 I h'⟩
theorem nE : ∀{l:List HV} {xs:List Value},RepHL w ρ O l xs→(∀v∈l,v.cells=sz)→xs.length=l.length*sz
 |[],xs,h,_=>by grind[RepHL]
 |v::vs,xs,h,hc=>by
  simp only[RepHL]at h;obtain⟨c1,U,rfl,I,J⟩:=h;rw[A3,bR I,hc v (by simp),nE J (fun u hu=>hc u (by grind)),List.length_cons,Nat.add_mul];omega
theorem bH1 {l:List HV}{cs:List Value}(hs: ∀v∈l,v.sto=true)(h:RepHL w ρ O l cs): ∀u∈cs,u.oneCell'=true:=
 wI (by
  induction l generalizing cs with
  |nil=>rfl
  |cons v l I=>
   grind[RepHL,HV.stoL,Bool.and_self]) h
end
def hreadH (x:HV)(ob:Ob):Option (List HV):=
 match x with
 | .own id n=>match ob id with
  |some (.hrow _ _ l)=>if n=l.length then some l else none
  |_=>none
 |_=>none
def hreadA (x:HV)(ob:Ob):Option (List HV):=
 match x with
 | .own id n=>match ob id with
  |some (.hrow _ _ l)=>if n=l.length then some l else none
  |some (.row _ _ l)=>if n=l.length then some (l.map .c)else none
  |_=>none
 | .c (.slc l)=>some (l.map .c)
 | .c .nils=>some []
 |_=>none
def hparts (e:Operand→HV):List (Nat×Operand)→Nat→Nat→Option (List HV)
 |[],_,_=>some []
 |(i,x)::ps,k,sz=>if i=k∧(e x).cells=sz∧(e x).sto=true then(hparts e ps (k+1) sz).map ((e x).norm::·)else none
def cI (id n sz m:Nat):HV:=if m=n then .own id n else .osl id n 0 sz m
def HO.isH (n:Nat):Option HO→Prop
 |some (.hrow _ _ l)=>n=l.length∧l≠[]
 |_=>False
def hopH (P:Program)(nid:Nat)(o:Op)(e:Operand→HV)(ob:Ob)(K:HV→Ob→Prop):Prop:=
 match o with
 | .buildSlice t len parts=>hlift (aP P t) fun ti=>match ti.d with
  | .slice el=>hlift (aP P el) fun te=>hlift (hparts e parts.toList 0 te.size) fun l=>(len=l.length∧len*te.size≤2^24)∧K (.own nid len) (upd ob nid (some (.hrow el te.size l)))
  |_=>False
 | .load t x=>hlift (aP P t) fun ti=>match e x with
  | .eptr id n i sz off=>match ob id with
   |some (.hrow _ sz' l)=>(n=l.length∧sz=sz'∧i<l.length)∧hlift ((mM l i).getAt off ti.size ti.d.isAgg) fun u=>K u ob
   |_=>False
  |_=>False
 | .store t x y=>hlift (aP P t) fun ti=>match e x with
  | .eptr id n i sz off=>match ob id with
   |some (.hrow T sz' l)=>(n=l.length∧sz=sz'∧i<l.length∧(e y).sto=true∧(e y).cells=ti.size)∧hlift (HV.setAt off ti.size (e y) (mM l i)) fun u=>K .junk (upd ob id (some (.hrow T sz' (l.set i u.norm))))
   |_=>False
  |_=>False
 | .nilCheck x=>match e x with
  | .eptr id n i sz off=>HO.isH n (ob id)∧K (.eptr id n i sz off) ob
  |_=>False
 | .fieldAddr t x f=>hfield P t f fun off _=>match e x with
  | .eptr id n i sz o=>HO.isH n (ob id)∧K (.eptr id n i sz (o+off)) ob
  |_=>False
 | .indexAddr t x i=>hlift (aP P t) fun ti=>match ti.d,e i with
  | .slice el,.c (.int _ i)=>hlift (aP P el) fun te=>match e x with
   | .own id n=>match ob id with
    |some (.hrow _ sz l)=>(n=l.length∧sz=te.size)∧(0≤i∧i<(n:Int))∧K (.eptr id n i.toNat sz 0) ob
    |_=>False
   |_=>False
  |_,_=>False
 | .slice t x lo hi none=>hlift (aP P t) fun ti=>match ti.d,e x with
  | .slice el,.osl id n l sz m=>match ob id with
   |some (.row _ sz' L)=>hlift (aP P el) fun te=>(l=0∧n=L.length∧0<n∧sz=te.size∧sz'=te.size∧m≤n)∧hlift (hlo (lo.map e) 0) fun a=>hlift (hlo (hi.map e) m) fun b=>(0≤a∧a≤b∧b≤(m:Int))∧K (.osl id n a.toNat sz b.toNat) ob
   |_=>False
  | .slice el,.own id n=>match ob id with
   |some (.row _ _ L)=>hlift (aP P el) fun te=>n=L.length∧hlift (hlo (lo.map e) 0) fun a=>hlift (hlo (hi.map e) n) fun b=>(a=0∧0≤b∧b≤(n:Int))∧K (cI id n te.size b.toNat) ob
   |_=>False
  |_,_=>False
 | .lookup t x y true=>match e x,e y with
  | .mapr id,.c (.int .i64 z)=>match ob id with
   |some (.raw es _)=> ∃l,es=jK l∧cD6 P t∧K (.tup [.c (.str ((lkG l z).getD [])),.c (.bool (lkG l z).isSome)]) ob
   |_=>False
  |_,_=>False
 | .call c=>match c.callee,c.args.toList,c.argTypes.toList with
  | .builtin .len,[x],[t]=>hlift (aP P t) fun ti=>match ti.d with
   | .slice _=>hlift (hreadH (e x) ob) fun l=>K (.c (.int .i64 l.length)) ob
   |_=>False
  | .builtin .append,[s,x],[t,t']=>hlift (aP P t) fun ti=>match ti.d with
   | .slice el=>hlift (aP P el) fun te=>match e s with
    | .osl id n lo sz m=>match ob id with
     |some (.row e' sz' l)=>hlift (hread (e x) ob) fun lx=>(t'=t∧n=l.length∧0<n∧e'=el∧sz=te.size∧sz'=te.size∧lo=0∧0<lx.length∧m+lx.length≤n)∧(∀v∈lx,v.cells=te.size)∧
       K (cI id n sz (m+lx.length)) (upd ob id (some (.row el te.size (l.take m++lx++l.drop (m+lx.length)))))
     |_=>False
    | .own id n=>hlift (hreadA (e x) ob) fun l2=>(t'=t∧ ∀v∈l2,v.cells=te.size∧v.sto=true)∧match ob id with
     |some (.hrow e' sz l)=>(n=l.length∧e'=el∧sz=te.size)∧(l.length+l2.length)*te.bytes≤140737488355328∧l.length+l2.length≤maxLen∧K (.own id (l++l2).length) (upd ob id (some (.hrow el sz (l++l2))))
     |_=>False
    | .c .nils=>hlift (hreadA (e x) ob) fun l2=>(t'=t∧ ∀v∈l2,v.cells=te.size∧v.sto=true)∧(0+l2.length)*te.bytes≤140737488355328∧l2.length≤maxLen∧K (.own nid l2.length) (upd ob nid (some (.hrow el te.size l2)))
    |_=>False
   |_=>False
  |_,_,_=>False
 |_=>False
variable {K:HV→Ob→Prop}{ob:Ob}{e:Operand→HV}{o:Op}{nid:Nat}{P:Program}
theorem bH2 (h:hopH P nid o e ob K):
  ∃v u,K v (app u ob)∧(∀ob':Ob,(∀id∈touch o e,ob' id=ob id)→ ∀K':HV→Ob→Prop,K' v (app u ob')→hopH P nid o e ob' K')∧(∀p,u=some p→p.1=nid∨(isEff o=true∧p.1∈touch o e))∧(bU o=true→u=none):=by
 unfold hopH at h;split at h
 ·
  rw[aD]at h;obtain⟨ti,ht,h⟩:=h;split at h
  · rename_i el ai;rw[aD]at h;obtain⟨te,ad,h⟩:=h;rw[aD]at h;obtain⟨l,aj,h1,U⟩:=h;exact⟨_,some (nid,_),U,fun ob' _ K' U=>(by simp only[hopH,ht,hlift_some,ai,ad,aj];exact⟨h1,U⟩),by simp,by simp[bU]⟩
  grind
 ·
  rw[aD]at h;obtain⟨ti,ht,h⟩:=h;split at h
  ·
   rename_i id n i sz off hx;split at h
   · rename_i T ag l ho;obtain⟨h1,h⟩:=h;rw[aD]at h;obtain⟨u,hu,U⟩:=h;refine⟨_,none,U,fun ob' J K' U=>?_,by simp,fun _=>rfl⟩;have I:=J id (by simp[touch,hx,HV.ids]);simp only[hopH,ht,hlift_some,hx,I,ho,hu];exact⟨h1,U⟩
   grind
  grind
 ·
  rw[aD]at h;obtain⟨ti,ht,h⟩:=h;split at h
  ·
   rename_i id n i sz off hx;split at h
   ·
    rename_i T ag l ho;obtain⟨h1,h⟩:=h;rw[aD]at h;obtain⟨u,hu,U⟩:=h;refine⟨_,some (id,_),U,fun ob' J K' U=>?_,fun p hp=>?_,by simp[bU]⟩
    · have I:=J id (by simp[touch,hx,HV.ids]);simp only[hopH,ht,hlift_some,hx,I,ho,hu];exact⟨h1,U⟩
    · cases hp;exact .inr ⟨rfl,by simp[touch,hx,HV.ids]⟩
   grind
  grind
 ·
  split at h
  · rename_i id n i sz off hx;refine⟨_,none,h.2,fun ob' J K' U=>?_,by simp,fun _=>rfl⟩;have I:=J id (by simp[touch,hx,HV.ids]);simp only[hopH,hx,I];exact⟨h.1,U⟩
  grind
 ·
  rename_i t x f;unfold hfield at h;rw[aD]at h;obtain⟨ti,ht,h⟩:=h;split at h
  ·
   rename_i fs an;rw[aD]at h;obtain⟨p,hf,h⟩:=h;rw[aD]at h;obtain⟨tf,ao,h⟩:=h;split at h
   · rename_i id n i sz off hx;refine⟨_,none,h.2,fun ob' J K' U=>?_,by simp,fun _=>rfl⟩;have I:=J id (by simp[touch,hx,HV.ids]);simp only[hopH,hfield,ht,hlift_some,an,hf,ao,hx,I];exact⟨h.1,U⟩
   grind
  grind
 ·
  rw[aD]at h;obtain⟨ti,ht,h⟩:=h;split at h
  ·
   rename_i el k i hd hi;rw[aD]at h;obtain⟨te,ad,h⟩:=h;split at h
   ·
    rename_i id n hx;split at h
    · rename_i T sz l ho;refine⟨_,none,h.2.2,fun ob' J K' U=>?_,by simp,fun _=>rfl⟩;have I:=J id (by simp[touch,hx,HV.ids]);simp only[hopH,ht,hlift_some,hd,hi,ad,hx,I,ho];exact⟨h.1,h.2.1,U⟩
    grind
   grind
  grind
 ·
  rename_i t x lo hi;rw[aD]at h;obtain⟨ti,ht,h⟩:=h;split at h
  ·
   rename_i el id n l sz m hd hx;split at h
   · rename_i T ag L ho;rw[aD]at h;obtain⟨te,ad,h1,h⟩:=h;rw[aD]at h;obtain⟨a,ha,h⟩:=h;rw[aD]at h;obtain⟨b,hb,h2,U⟩:=h;refine⟨_,none,U,fun ob' J K' U=>?_,by simp,fun _=>rfl⟩;have I:=J id (by simp[touch,hx,HV.ids]);simp only[hopH,ht,hlift_some,hd,hx,I,ho,ad];refine⟨h1,?_⟩;rw[ha];simp only[hlift_some];rw[hb];exact⟨h2,U⟩
   grind
  ·
   rename_i el id n hd hx;split at h
   · rename_i T ag L ho;rw[aD]at h;obtain⟨te,ad,h1,h⟩:=h;rw[aD]at h;obtain⟨a,ha,h⟩:=h;rw[aD]at h;obtain⟨b,hb,h2,U⟩:=h;refine⟨_,none,U,fun ob' J K' U=>?_,by simp,fun _=>rfl⟩;have I:=J id (by simp[touch,hx,HV.ids]);simp only[hopH,ht,hlift_some,hd,hx,I,ho,ad];refine⟨h1,?_⟩;rw[ha];simp only[hlift_some];rw[hb];exact⟨h2,U⟩
   grind
  grind
 ·
  rename_i t x y;split at h
  ·
   rename_i id z hx hy;split at h
   · rename_i es ck ho;obtain⟨l,hl,ak,U⟩:=h;refine⟨_,none,U,fun ob' J K' U=>?_,by simp,fun _=>rfl⟩;have I:=J id (by simp[touch,hx,HV.ids]);simp only[hopH,hx,hy,I,ho];exact⟨l,hl,ak,U⟩
   · exact h.elim
  · exact h.elim
 ·
  rename_i c;split at h
  ·
   rename_i x t aa ab af;rw[aD]at h;obtain⟨ti,ht,h⟩:=h;split at h
   ·
    rename_i el hd;rw[aD]at h;obtain⟨l,hl,U⟩:=h;refine⟨_,none,U,fun ob' J K' U=>?_,by simp,fun _=>rfl⟩;have ah:hreadH (e x) ob'=some l:=by
     rw[←hl];unfold hreadH;split
     · grind[id,touch,HV.ids]
     · rfl
    simp only[hopH,aa,ab,af,ht,hlift_some,hd,ah];exact U
   grind
  ·
   rename_i s x t t' aa ab af;rw[aD]at h;obtain⟨ti,ht,h⟩:=h;have ae:touch (.call c) e=(e s).ids++(e x).ids:=by simp only[touch,aa,ab,G3,I9,J7]
   split at h
   ·
    rename_i el hd;rw[aD]at h;obtain⟨te,ad,h⟩:=h;have ah: ∀{l2:List HV} (ob':Ob),hreadA (e x) ob=some l2→(∀id∈touch (.call c) e,ob' id=ob id)→hreadA (e x) ob'=some l2:=fun ob' hl J=>by
     rw[←hl];unfold hreadA;grind[id,HV.ids]
    split at h
    ·
     rename_i id n lo sz m hs;split at h
     ·
      rename_i e' ag l ho;rw[aD]at h;obtain⟨lx,hl,hc,h2,U⟩:=h;refine⟨_,some (id,_),U,fun ob' J K' U=>?_,fun p hp=>?_,by simp[bU,aa]⟩
      · have I:=J id (by rw[ae,hs];simp[HV.ids]);have hr:=(gG fun i hi=>J i (by rw[ae];exact L3 _ hi)).trans hl;simp only[hopH,aa,ab,af,ht,hlift_some,hd,ad,hs,I,ho,hr];exact⟨hc,h2,U⟩
      · cases hp;exact .inr ⟨by simp only[isEff,aa],by grind[HV.ids]⟩
     · exact h.elim
    ·
     rename_i id n hs;rw[aD]at h;obtain⟨l2,hl,hc,h⟩:=h;split at h
     ·
      rename_i e' sz l ho;refine⟨_,some (id,_),h.2.2.2,fun ob' J K' U=>?_,fun p hp=>?_,by simp[bU,aa]⟩
      · have I:=J id (by grind[HV.ids]);simp only[hopH,aa,ab,af,ht,hlift_some,hd,ad,ah ob' hl J,hs,I,ho];exact⟨hc,h.1,h.2.1,h.2.2.1,U⟩
      · cases hp;exact .inr ⟨by simp only[isEff,aa],by grind[HV.ids]⟩
     · exact h.elim
    · rename_i hs;rw[aD]at h;obtain⟨l2,hl,hc,h⟩:=h;refine⟨_,some (nid,_),h.2.2,fun ob' J K' U=>?_,by simp,by simp[bU,aa]⟩;simp only[hopH,aa,ab,af,ht,hlift_some,hd,ad,ah ob' hl J,hs];exact⟨hc,h.1,h.2.1,U⟩
    grind
   grind
  grind
 grind
theorem uB {e e':Operand→HV}: ∀{ps:List (Nat×Operand)} {k sz:Nat},(∀p∈ps,e' p.2=e p.2)→hparts e' ps k sz=hparts e ps k sz
 |[],_,_,_=>rfl
 |(i,x)::ps,k,sz,h=>by simp only[hparts,show e' x=e x from h (i,x) (by simp),uB (ps:=ps) (fun p hp=>h p (by grind))]
variable {x:Option Operand}{e':Operand→HV}
theorem aI2 (h: ∀y∈x.toList,e' y=e y):x.map e'=x.map e:=by
 cases x with
 |none=>rfl
 |some y=>grind
theorem bH3 (h: ∀x∈o.operands,e' x=e x)(hl:hopH P nid o e ob K):hopH P nid o e' ob K:=by
 unfold hopH at hl;split at hl
 · rename_i t n ps;have: ∀p∈ps.toList,e' p.2=e p.2:=fun p hp=>h p.2 (by simp only[Op.operands,AH,H0];grind);simp only[hopH,uB this];grind
 · grind[hopH,Op.operands]
 · simp_all[hopH,Op.operands]
 · grind[hopH,Op.operands]
 · grind[hopH,Op.operands]
 · grind[hopH,Op.operands]
 · simp_all[Op.operands,aI2,hopH]
 · grind[hopH,Op.operands]
 · rename_i c;have J: ∀y∈c.args.toList,e' y=e y:=fun y I=>h y (by grind[Op.operands,Call.operands]);split at hl;all_goals simp_all[hopH]
 grind
section
variable {P:Program}{c:Ctx}{M M':Nat→Prop}{fr:Fr}{ob:Ob}{a:Act}{w:World}{ρ:Env}
theorem wT (h:RepA' c M fr ob a w ρ){x:Operand}{id n sz:Nat}{t:TypeId}{l:List HV}(hx:ev fr x= .own id n)(J:ob id=some (.hrow t sz l))(hn:n=l.length):
  ∃I xs,ρ id=some (.hdr I)∧a.eval x=I∧hlen I=n∧RepHL w ρ (Owned ρ c.X) l xs∧(∀v∈l,v.cells=sz∧v.sto=true)∧w.ownsRow 0 t sz I n xs:=by
 subst hn;obtain⟨y,he,h1,hp⟩:=cD2 h hx;obtain⟨I,xs,hρ,aa,U,how⟩:=h.s.objs id _ J;grind[hlen,ownsRow_size]
theorem sW (h:RepA' c M fr ob a w ρ){x:Operand}{id n i sz off I:Nat}{t:TypeId}{l:List HV}(hx:ev fr x= .eptr id n i sz off)(ho:ob id=some (.hrow t I l))(hn:n=l.length)(ag:l≠[]):
  ∃g cap cur xs,ρ id=some (.hdr (.slice (some ⟨g,0,none⟩) n cap))∧a.eval x= .pointer (some ⟨g,i*sz+off,none⟩)∧RepHL w ρ (Owned ρ c.X) l xs∧(∀v∈l,v.cells=I∧v.sto=true)∧xs.length=n*I∧w.heap[g]? =some (.cells cur t (0,0))∧
   n≤cap∧cap≤maxLen∧cur.size=cap*I∧cur.toList.take (n*I)=xs:=by
 subst hn;obtain⟨y,he,h1,hp⟩:=bN0 h hx;obtain⟨hd,xs,hρ,ad,af,how⟩:=h.s.objs id _ ho;obtain⟨ah,ae⟩:=hp hd hρ;have ab:=how.1;rcases how.2 with⟨rfl,hz⟩|⟨g,cap,cur,rfl,ai,hg,U,hmax,aa,J⟩
 · grind
 · exact⟨g,cap,cur,xs,hρ,by rw[he];exact ae rfl g cap rfl,ad,af,ab,hg,U,hmax,aa,J⟩
theorem yA (h:RepA' c M fr ob a w ρ){sz:Nat}: ∀(ps:List (Nat×Operand)) (k:Nat) (l:List HV),hparts (ev fr) ps k sz=some l→
  ∃J:List Value,(ps.map fun p=>(p.1,a.eval p.2))=(J.zipIdx k).map (fun p=>(p.2,p.1))∧J.length=l.length∧(∀v∈J,v.cells.size=sz)∧(∀v∈l,v.cells=sz∧v.sto=true)∧HV.menL M l∧RepHL w ρ (Owned ρ c.X) l (J.map fun v=>v.cells.toList).flatten
 |[],k,l,hl=>by simp only[hparts,E8]at hl;subst hl;exact⟨[],by simp,rfl,by simp,by simp,by simp[HV.menL],by simp[RepHL]⟩
 |(i,x)::ps,k,l,hl=>by
  simp only[hparts]at hl;split at hl
  ·
   rename_i hc;obtain⟨rfl,U,I⟩:=hc;rw[C9]at hl;obtain⟨l',hl,rfl⟩:=hl;obtain⟨J,e1,e2,e4,e5,em,e6⟩:=yA h ps (i+1) l' hl;have hv:=h.ev x (by intro e;rw[e]at I;simp[HV.sto]at I);refine⟨a.eval x::J,by simp[e1],by simp[e2],fun u hu=>?_,fun u hu=>?_,?_,?_⟩
   ·
    rcases E0.1 hu with rfl|hu
    · have:=bR hv.1;rw[U]at this;simpa using this
    · exact e4 u hu
   ·
    rcases E0.1 hu with rfl|hu
    · exact⟨by rw[HV.norm_cells];exact U,HV.norm_sto I⟩
    · exact e5 u hu
   · simp only[HV.menL];exact⟨HV.norm_men (h.evm x),em⟩
   · simp only[B8,S9,RepHL];exact⟨_,_,rfl,HV.norm_rep hv.1,e6⟩
  · cases hl
theorem aR4 (h:RepA' c M fr ob a w ρ){nid:Nat}(hn: ¬M nid)(hM: ∀i,M i→M' i)(af:M' nid){t e:TypeId}{ti te:TyI}(ht:aP P t=some ti)(an:ti.d= .slice e)
  (ak:aP P e=some te) {parts:Array (Nat×Operand)} {len:Nat} {l:List HV} (hl:hparts (ev fr) parts.toList 0 te.size=some l) (hlen:len=l.length) (hmax:len*te.size≤2^24)
  (d:Option Nat) (hd: ∀k,d=some k→k<c.n):
  ∃y w' ρ',(Instr.buildSlice t len (parts.map fun p=>(p.1,a.eval p.2))).run P w= .ok y w'∧RepA' c M' (updo fr d (.own nid len)) (upd ob nid (some (.hrow e te.size l))) (a.put d y) w' ρ':=by
 obtain⟨i,d',zv,ai⟩:=bF ht;obtain⟨ie,de,ad,aa⟩:=bF ak;have ah:=ai.d_;rw[an]at ah;have hu:P.underlying t=some (.slice e):=by
  rw[ai.under];congr 1;cases d'<;>simp[tyd]at ah;grind
 obtain⟨vs,e1,e2,e4,e5,em,e6⟩:=yA h _ _ _ hl;have aj:=aa.pos;have key: ∀J:Array Value,J.size=len*te.size→ ∃I,Instr.fill (fun i=>some (i*te.size,te.size)) J (parts.map fun p=>(p.1,a.eval p.2)).toList=some I∧I.toList=(vs.map fun v=>v.cells.toList).flatten:=by
  intro J hc;obtain⟨I,h1,h2⟩:=aA2 te.size vs 0 J (by rw[hc,e2,hlen];simp) e4;exact⟨I,by rw[U1,e1];exact h1,by rw[h2];simp⟩
 have ag:(sizeOf e).run P w= .ok te.size w:=by rw[bS aa.info,aa.size]
 have hzero:(zeroValue e).run P w= .ok ad w:=by simp[zeroValue,typeInfo,aa.info,aa.zero]
 have ar: ∃I,(Instr.buildSlice t len (parts.map fun p=>(p.1,a.eval p.2))).run P w= .ok (.slice (some ⟨w.heap.size,0,none⟩) len len) (w.alloc (.cells I e))∧I.toList=(vs.map fun v=>v.cells.toList).flatten:=by
  by_cases h0:len*te.size=0
  · obtain⟨I,h1,h2⟩:=key ((Array.range (len*te.size)).map ((#[]:Array Value)[· %(#[]:Array Value).size]!)) (by simp);refine⟨I,?_,h2⟩;unfold Instr.buildSlice;simp only[G6,D4 hu,E6,ag];rw[A7 (by omega)];simp only[h0,G4,G6,I7,E6];rw[h0]at h1;rw[h1];simp[newRow]
  · obtain⟨I,h1,h2⟩:=key ((Array.range (len*te.size)).map (ad.cells[· %ad.cells.size]!)) (by simp);refine⟨I,?_,h2⟩;unfold Instr.buildSlice;simp only[G6,D4 hu,E6,ag];rw[A7 (by omega)];simp only[A7 h0,G6,hzero,I7,E6];rw[h1];simp[newRow]
 obtain⟨I,ae,U⟩:=ar;have aq:=nE e6 (fun v hv=>(e5 v hv).1);refine⟨_,_,_,ae,h.newObj (w1:=w) (L:= .hdr (.slice (some ⟨w.heap.size,0,none⟩) len len)) hn hM af rfl rfl rfl rfl (fun b hb=>by simpa[Loc.has,Value.ownBlock]using hb.symm) (fun ao=>?_) (HV.menL_mono hM em) (.inr ?_) (by simpa[HV.men]using af) hd⟩
 ·
  have ab:I.toList.length=len*te.size:=by rw[U,aq,hlen]
  refine⟨_,_,aR _ _ _,RepHL.stay ao (Moves.upd_new hn) em e6,e5,?_,.inr ⟨w.heap.size,len,I,by rw[hlen],I1 _,N4 w _,by omega,?_,by simpa using ab,?_⟩⟩
  · rw[←U,ab,hlen]
  · have:len≤len*te.size:=AF _ aj;unfold maxLen;omega
  · rw[C8 (by rw[ab,hlen];exact E3 _),U]
 · refine dD ?_ rfl rfl;simp only[RepH];refine⟨_,rfl,by simp[Value.oneCell'],fun au hρ=>?_⟩;rw[aR]at hρ;cases hρ;exact⟨E3 _,fun _=>rfl⟩
theorem aX5 (h:RepA' c M fr ob a w ρ){t:TypeId}{ti:TyI}(ht:aP P t=some ti){x:Operand}{id n i sz off J:Nat}{T:TypeId}{l:List HV}(hx:ev fr x= .eptr id n i sz off)(ho:ob id=some (.hrow T J l))
  (hn:n=l.length) (ae:sz=J) (hi:i<l.length) {u:HV} (hg:(mM l i).getAt off ti.size ti.d.isAgg=some u):
  ∃y,(Instr.loadAt t (a.eval x)).run P w= .ok y w∧RepV w ρ (Owned ρ c.X) u y∧u.men M:=by
 obtain⟨i0,d,zv,af⟩:=bF ht;subst hn ae;obtain⟨g,cap,cur,xs,hρ,he,ab,aa,ad,hh,ag,hmax,ah,I⟩:=sW h hx ho rfl (fun e=>by grind);obtain⟨d1,d2,d3,rfl,f1,f2,_⟩:=wS (u:= .junk) ab (fun v hv=>(aa v hv).1) hi;obtain⟨c1,c2,c3,rfl,e1,e2,e3,e4,e5,e6⟩:=HV.getAt_spec hg (aa _ (pR hi)).2 f2;refine⟨eN ti.d.isAgg c2,?_,iF e3 e4 e5,e6 M (aB3 (h.mo id _ ho).2 (pR hi))⟩;rw[he];simp only[Instr.loadAt,Instr.sureAddr,G6,I7,E6];refine lF af _ c2 e2 (fun j u hj=>?_);have ai:j<c2.length:=(H3.1 hj).1;rw[eS,AZ w g _ _ _ _ hh];have U:i*sz+off+j<l.length*sz:=by
  simp only[A3]at ad;omega
 have h3:cur[i*sz+off+j]? =(cur.toList.take (l.length*sz))[i*sz+off+j]? :=by
  rw[M3,B1 U,N2]
 rw[h3,I];simp only[H5];rw[L6 (by omega),L6 (by omega),M7 (by omega)];rw[←hj];congr 1;omega
theorem aR5 (h:RepA' c M fr ob a w ρ){t:TypeId}{ti:TyI}(ht:aP P t=some ti){x y:Operand}{id n i sz off af:Nat}{T:TypeId}{l:List HV}(hx:ev fr x= .eptr id n i sz off)(ho:ob id=some (.hrow T af l))
  (hn:n=l.length) (az:sz=af) (hi:i<l.length) (ab:(ev fr y).sto=true) (ak:(ev fr y).cells=ti.size) {u:HV} (aw:HV.setAt off ti.size (ev fr y) (mM l i)=some u):
  ∃w',(Instr.storeAt t (a.eval x) (a.eval y)).run P w= .ok () w'∧ ∀d z,(∀k,d=some k→k<c.n)→RepA' c M (updo fr d .junk) (upd ob id (some (.hrow T af (l.set i u.norm)))) (a.put d z) w' ρ:=by
 obtain⟨i0,d,zv,ag⟩:=bF ht;subst hn az;have bd:l≠[]:=fun e=>by grind
 obtain⟨g,cap,cur,xs,hρ,he,ax,ad,au,hh,ar,hmax,ao,ai⟩:=sW h hx ho rfl bd;have aa:=h.ev y (by intro e;rw[e]at ab;simp[HV.sto]at ab);have ah:=(h.mo id _ ho).2;obtain⟨d1,d2,d3,rfl,f1,f2,f3⟩:=wS (u:=u.norm) ax (fun v hv=>(ad v hv).1) hi;obtain⟨c1,c2,c3,rfl,e1,e2,e3,e4,e5⟩:=HV.setAt_spec (ρ:=ρ) ab aw (ad _ (pR hi)).2 f2;have bc:(a.eval y).cells.toList.length=c2.length:=by rw[bR aa.1,ak,e2]
 have I:cur.toList=(d1++c1)++c2++(c3++d3++cur.toList.drop (l.length*sz)):=by
  refine(K9 (l.length*sz) cur.toList).symm.trans ?_;rw[ai];simp
 have J:cur.size=cur.toList.length:=by simp
 have ae:i*sz+off=(d1++c1).length:=by simp[f1,e1]
 have aj:=nB (P:=P) (w:=w) ag.info (a.eval y) (by rw[ag.size,←ak,←bR aa.1];simp) g (i*sz+off) T cur hh
  (by rw[J,I,ae];simp only[A3];rw[ag.size,←e2];omega) (pL ab aa.1)
 refine⟨_,by rw[he];exact aj,fun d z hd=>?_⟩;have an:cur.toList.take (i*sz+off)++(a.eval y).cells.toList++cur.toList.drop (i*sz+off+(a.eval y).cells.toList.length)=(d1++c1)++(a.eval y).cells.toList++(c3++d3++cur.toList.drop (l.length*sz)):=by
  rw[ae]
  conv=>lhs;rw[I]
  exact mR bc
 rw[an];have aq:u.norm.men M:=HV.norm_men (e5 M (h.evm y) (aB3 ah (pR hi)));have hun:=HV.norm_rep (e3 _ aa.1);have U:(∀v∈l.set i u.norm,v.cells=sz∧v.sto=true):=by
  intro v hv;rcases M8 hv with hv|rfl
  · exact ad v hv
  · have h1:=bR hun;have h2:=bR f2;rw[(ad _ (pR hi)).1]at h2;simp only[A3]at h1 h2;exact⟨by omega,HV.norm_sto e4⟩
 have ay:=f3 _ hun;refine h.setObj (b0:=g) hρ (by simp[Loc.has,Value.ownBlock]) (h.mo id _ ho).1 (fun b' ba=>R7 w g b' _ ba) (X3 _ _ _) rfl rfl rfl (fun bb=>?_) (wR aq ah) (fun _=> .inl rfl) (by simp[HV.men]) hd;refine⟨_,_,hρ,RepHL.stay bb (Moves.refl M ρ) (wR aq ah) ay,U,?_,.inr ⟨g,cap,_,by rw[M5],I1 _,T1 w g _ _ T (0,0) hh,by simpa using ar,hmax,?_,?_⟩⟩
 · simp only[A3,M5]at au⊢;omega
 ·
  rw[←ao,J]
  conv=>rhs;rw[I]
  simp only[I8,A3];omega
 ·
  rw[M5];simp only[A3]at au;have e:(d1++c1++(a.eval y).cells.toList++(c3++d3++cur.toList.drop (l.length*sz)))=(d1++(c1++(a.eval y).cells.toList++c3)++d3)++cur.toList.drop (l.length*sz):=by simp
  rw[e];refine X6 ?_;simp only[A3];omega
theorem yB (h:RepA' c M fr ob a w ρ){x:Operand}{l:List HV}(hx:hreadA (ev fr x) ob=some l):
  ∃I m cap xs,a.eval x= .slice I m cap∧m=l.length∧RepHL w ρ (Owned ρ c.X) l xs∧HV.menL M l∧(I=none→m=0)∧ ∀b,I=some b→ ∀j u,xs[j]? =some u→w.cell? (b.add j)=some u:=by
 have cl: ∀J:List CV,hread (ev fr x) ob=some J→l=J.map .c→ ∃I m cap xs,a.eval x= .slice I m cap∧m=l.length∧RepHL w ρ (Owned ρ c.X) l xs∧HV.menL M l∧(I=none→m=0)∧ ∀b,I=some b→ ∀j u,xs[j]? =some u→w.cell? (b.add j)=some u:=fun J h1 e=>by
  obtain⟨I,m,cap,xs,e1,e2,e3,e4,e5,_⟩:=kN h h1;subst e;exact⟨I,m,cap,xs,e1,by simpa using e2,tV.2 e3,HV.menL_c,e4,e5⟩
 unfold hreadA at hx;split at hx
 ·
  rename_i id n he;split at hx
  ·
   rename_i t sz J ho;split at hx
   ·
    rename_i hn;cases hx;obtain⟨hd,xs,h1,h2,h3,h4,h5,h6⟩:=wT h he ho hn;have hm:=(h.mo id _ ho).2;rcases h6.2 with⟨rfl,hz⟩|⟨g,cap,cur,rfl,ae,hg,aa,_⟩
    · have ab:xs=[]:=D3 (by rw[h6.1,hz];simp);exact⟨none,0,0,xs,h2,by rw[←hn,hz],h4,hm,fun _=>rfl,fun b U=>(by cases U)⟩
    · refine⟨some ⟨g,0,none⟩,n,cap,xs,h2,hn,h4,hm,fun U=>(by cases U),fun b U=>?_⟩;cases U;exact h6.cells (g:=g) rfl
   · cases hx
  ·
   rename_i t sz J ho;split at hx
   · rename_i hn;cases hx;exact cl J (by simp only[hread,he,ho,B1 hn]) rfl
   · cases hx
  · cases hx
 · rename_i J he;cases hx;exact cl J (by simp only[hread,he]) rfl
 · rename_i he;cases hx;exact cl [] (by simp only[hread,he]) rfl
 · cases hx
theorem rZ (h:RepA' c M fr ob a w ρ){nid:Nat}(hM: ∀i,M i→M' i){t ty el:TypeId}{te:TyI}{s x:Operand}(hu:P.underlying t=some (.slice el))(ba:aP P el=some te){l2:List HV}
  (hx:hreadA (ev fr x) ob=some l2) (ak: ∀v∈l2,v.cells=te.size∧v.sto=true) (d:Option Nat) (hd: ∀k,d=some k→k<c.n) {id n:Nat} {l:List HV} {J:Value} {xs:List Value} (hn:n=l.length) (bt:HV.menL M l) (az:M' id)
  (hold: ¬M id∧J= .slice none 0 0∨ρ id=some (.hdr J)∧ob id=some (.hrow el te.size l)) (ay:a.eval s=J) (bm:RepHL w ρ (Owned ρ c.X) l xs) (bu: ∀v∈l,v.cells=te.size∧v.sto=true) (how:w.ownsRow 0 el te.size J n xs)
  (hb:(l.length+l2.length)*te.bytes≤140737488355328) (br:l.length+l2.length≤maxLen):
  ∃y w' ρ',(Builtin.append_ #[t,t] ty #[a.eval s,a.eval x]).run P w= .ok y w'∧RepA' c M' (updo fr d (.own id (l++l2).length)) (upd ob id (some (.hrow el te.size (l++l2)))) (a.put d y) w' ρ':=by
 subst hn;obtain⟨ie,de,bp,I⟩:=bF ba;obtain⟨ad,m,cp,news,he,hm,ao,bh,an,ag⟩:=yB h hx;have bf:news.length=m*ie.size:=by rw[nE ao (fun v hv=>(ak v hv).1),hm,I.size]
 have bq:bp.cells.size=ie.size:=by rw[I.zsize,I.size]
 have ae:=how;rw[←I.size]at how;obtain⟨v',w',U,ab,aa,hblk,aw⟩:=lG (P:=P) (ty:=ty) hu I.info I.zero bq J l.length xs how ad m cp news bf an ag (bH1 (fun v hv=>(ak v hv).2) ao) (by rw[hm];exact br) (by rw[hm,I.bytes];exact hb);have ax: ∀v∈l++l2,v.cells=te.size∧v.sto=true:=fun v hv=>(D6.1 hv).elim (bu v) (ak v);have af:HV.menL M (l++l2):=HV.menL_append.2 ⟨bt,bh⟩;have ah:v'.oneCell'=true:=by rcases ab.2 with⟨rfl,_⟩|⟨g,cap,cur,rfl,_⟩<;>simp[Value.oneCell']
 have bj:Hl.hlen v'=l.length+m:=ownsRow_size ab;by_cases hstep:ρ id=some (.hdr J)∧m=0
 ·
  obtain⟨hρ,au⟩:=hstep;rcases hold with⟨aj,_⟩|⟨_,ho⟩
  · exact absurd hρ (by rw[(h.nid_none aj).2];simp)
  obtain⟨aq,bl⟩:=aw au;have bb:l2=[]:=D3 (by rw[←hm];exact au);subst bb;rw[aq,bl]at U;refine⟨_,_,ρ,by rw[ay,he];exact U,?_⟩;have bc:upd ob id (some (.hrow el te.size (l++[])))=ob:=by
   funext k;by_cases hk:k=id
   · subst hk;rw[aR,ho];simp
   · rw[bE _ _ hk]
  rw[bc];have ar:HV.men M (.own id (l++[]).length):=by simpa[HV.men]using(h.mo id _ ho).1
  have bg:RepV w ρ (Owned ρ c.X) (.own id (l++[]).length) J:=by
   rw[aq]at ah;refine dD ?_ rfl (iX ah);simp only[RepH];refine⟨_,rfl,ah,fun bx h1=>?_⟩;rw[hρ]at h1;cases h1;exact⟨by simp[ownsRow_size ae],fun _=>rfl⟩
  exact(h.value (d:=d) (.inr bg) ar hd).weaken hM
 ·
  have bd:Moves M ρ (upd ρ id (some (.hdr v'))):=by
   rcases hold with⟨aj,_⟩|⟨hρ,_⟩
   · exact Moves.upd_new aj
   ·
    intro i L' bz h1;by_cases e:i=id
    · subst e;rw[aR]at h1;cases h1;exact⟨_,hρ,.inr (.inl ⟨J,v',rfl,rfl,by rw[ownsRow_size ae];have:m≠0:=fun e=>hstep ⟨hρ,e⟩;omega⟩)⟩
    · rw[bE _ _ e]at h1;exact⟨L',h1,.inl rfl⟩
  refine⟨_,_,upd ρ id (some (.hdr v')),by rw[ay,he];exact U,?_⟩;refine h.rehdrO hM az (hold.imp (fun h=>h.1) fun h=>⟨J,h.1,by rw[ownsRow_size ae];have:m≠0:=fun e=>hstep ⟨h.1,e⟩;omega⟩) aa.os aa.tape aa.output aa.size (fun b bk bo=>aa.block b bk (fun e=>?_))
   (fun g hg=>?_) ah (by rw[bj,A3,hm]) (fun bn=>?_) (HV.menL_mono hM af) hd
  ·
   rcases hold with⟨_,rfl⟩|⟨hρ,_⟩
   · simp[Value.ownBlock]at e
   · exact bo _ hρ (by simpa[Loc.has]using e.symm)
  ·
   rcases hblk with ai|ai
   ·
    rcases hold with⟨_,rfl⟩|⟨hρ,_⟩
    · rw[ai]at hg;simp[Value.ownBlock]at hg
    · exact .inr ⟨_,hρ,by simpa[Loc.has]using ai.symm.trans hg⟩
   · rw[ai]at hg;cases hg;exact .inl (E3 _)
  · refine⟨v',xs++news,aR _ _ _,RepHL.stay bn bd af (tU.2 ⟨xs,news,rfl,bm,ao⟩),ax,?_⟩;rw[A3,←hm,←I.size];exact ab
theorem aI3 (h:RepA' c M fr ob a w ρ){t ty el:TypeId}{I:TyI}{s x:Operand}(hu:P.underlying t=some (.slice el))(bb:aP P el=some I){J l:List CV}{id n m:Nat}(hs:ev fr s= .osl id n 0 I.size m)
  (ho:ob id=some (.row el I.size l)) (hx:hread (ev fr x) ob=some J) (hn:n=l.length) (bc:0<n) (bq:0<J.length) (az:m+J.length≤n) (ax: ∀v∈J,v.cells=I.size) (d:Option Nat) (hd: ∀k,d=some k→k<c.n):
  ∃y w',(Builtin.append_ #[t,t] ty #[a.eval s,a.eval x]).run P w= .ok y w'∧RepA' c M (updo fr d (cI id n I.size (m+J.length))) (upd ob id (some (.row el I.size (l.take m++J++l.drop (m+J.length))))) (a.put d y) w' ρ:=by
 obtain⟨ie,de,br,U⟩:=bF bb;obtain⟨g,cap,xs,hρ,he,aj,ar,ag,how⟩:=tX h hs ho hn bc;obtain⟨ad,mm,cp,news,bj,af,aq,ao,ae,_,_⟩:=kN h hx;rcases how.2 with⟨e,_⟩|⟨g',au,cur,e,bh,hg,_,hmax,ai,ab⟩
 · cases e
 cases e;have ak:news.length=mm*I.size:=by rw[eK aq ax,af]
 have bk:=how.1;cases ad with
 |none=>have:=ao rfl;omega
 |some b=>
  have ba:m*I.size+news.length≤cur.size:=by
   rw[ak,ai,←Nat.add_mul];exact I3 _ (by omega)
  have bd:a.eval s= .slice (some ⟨g,0,none⟩) m cap:=by rw[he];simp
  have ah:=run_append_room (P:=P) w t ty el ie hu U.info g m cap cur hg b mm cp news (by rw[ak,U.size]) (ae b rfl) (kW aq) (by omega) (by rw[U.size];exact ba);rw[U.size]at ah;refine⟨_,_,by rw[bd,bj];exact ah,?_⟩;have hlen:(l.take m++J++l.drop (m+J.length)).length=n:=by simp;omega
  have aw:RepL w (Owned ρ c.X) (l.take m++J++l.drop (m+J.length)) (xs.take (m*I.size)++news++xs.drop ((m+J.length)*I.size)):=
   eO.2 ⟨_,_,rfl,eO.2 ⟨_,_,rfl,gK m ar ag,aq⟩,jI _ ar ag⟩
  have an: ∀v∈l.take m++J++l.drop (m+J.length),v.cells=I.size:=fun v hv=>by
   rcases D6.1 hv with hv|hv
   ·
    rcases D6.1 hv with hv|hv
    · exact ag v (J3 hv)
    · exact ax v hv
   · exact ag v (H8 hv)
  have bo:(m+J.length)*I.size≤n*I.size:=I3 _ az;have hk:(m+J.length)*I.size=m*I.size+news.length:=by rw[ak,af,N0]
  have aa:cur.toList.length=cap*I.size:=by simpa using ai
  have bp:n*I.size≤cap*I.size:=I3 _ aj;have bn:m*I.size≤n*I.size:=I3 _ (by omega);have bm:xs.take (m*I.size)=cur.toList.take (m*I.size):=by rw[←ab,R1,M6 bn]
  have bl:xs.drop ((m+J.length)*I.size)=(cur.toList.drop (m*I.size+news.length)).take (n*I.size-(m*I.size+news.length)):=by rw[←ab,hk,BB]
  refine h.setObj (b0:=g) hρ (by simp[Loc.has,Value.ownBlock]) (h.mo id _ ho).1 (fun b' bf=>R7 w g b' _ bf) (X3 _ _ _) rfl rfl rfl (fun ay=>?_) trivial (fun ay=> .inr ?_) ?_ hd
  ·
   refine⟨_,_,hρ,aw.stay ay,an,?_⟩;rw[hlen];refine⟨?_,.inr ⟨g,cap,_,rfl,bh,T1 w g _ _ el (0,0) hg,aj,hmax,?_,?_⟩⟩
   · simp only[A3,E1,G8,bk];omega
   · simp only[I8,A3,E1,G8,aa];omega
   · rw[bm,bl];simp only[List.take_append,A3,E1,aa];rw[C8 (l:=List.take (m*I.size) cur.toList) (by simp;omega),C8 (l:=news) (by omega)];congr 2;congr 1;omega
  ·
   unfold cI;by_cases hc:m+J.length=n
   · rw[B1 hc];refine dD ?_ rfl rfl;simp only[RepH];refine⟨_,rfl,by simp[Value.oneCell'],fun bg h1=>?_⟩;rw[hρ]at h1;cases h1;exact⟨by simp[Hl.hlen],fun _=>by rw[af,hc]⟩
   · rw[A7 hc];refine dD ?_ rfl rfl;simp only[RepH];refine⟨_,rfl,by simp[Value.oneCell'],fun bg h1=>?_,fun b' h1=>by rw[hρ]at h1;cases h1⟩;rw[hρ]at h1;cases h1;refine⟨by simp[Hl.hlen],fun _ g' au e'=>?_⟩;cases e';simp[af]
  · have hid:=(h.mo id _ ho).1;unfold cI;split<;>simpa[HV.men]using hid
theorem bH4 (h:RepA' c M fr ob a w ρ){nid:Nat}(hn: ¬M nid)(hM: ∀i,M i→M' i)(bg:M' nid){o:Oper}{K:HV→Ob→Prop}(hl:hopH P nid o.op (ev fr) ob K)(hd: ∀k,o.dst=some k→k<c.n):
  Gives P o a w fun y w'=> ∃v ob' ρ',K v ob'∧RepA' c M' (updo fr o.dst v) ob' (a.put o.dst y) w' ρ':=by
 have ab: ∀{v:HV} {y:Value},K v ob→(execOp a.eval o).run P w= .ok (.value y) w→RepV w ρ (Owned ρ c.X) v y→v.men M→
   Gives P o a w fun y w'=> ∃v ob' ρ',K v ob'∧RepA' c M' (updo fr o.dst v) ob' (a.put o.dst y) w' ρ':=fun hK hr hv hm=>
  .val hr ⟨_,_,_,hK,(h.value (.inr hv) hm hd).weaken hM⟩
 have live: ∀{x:Operand} {id n i sz off:Nat},ev fr x= .eptr id n i sz off→HO.isH n (ob id)→ ∃g cap,ρ id=some (.hdr (.slice (some ⟨g,0,none⟩) n cap))∧a.eval x= .pointer (some ⟨g,i*sz+off,none⟩):=fun {x id n i sz off} hx hb=>by
  unfold HO.isH at hb;grind[sW]
 unfold hopH at hl;split at hl
 ·
  rename_i t len parts ho;rw[aD]at hl;obtain⟨ti,ht,hl⟩:=hl;split at hl
  · rename_i el bm;rw[aD]at hl;obtain⟨te,af,hl⟩:=hl;rw[aD]at hl;obtain⟨l,bo,⟨h1,h2⟩,hK⟩:=hl;obtain⟨y,w',ρ',hr,hA⟩:=aR4 h hn hM bg ht bm af bo h1 h2 o.dst hd;exact .val (by simp[execOp,ho,hr]) ⟨_,_,_,hK,hA⟩
  grind
 ·
  rename_i t x ho;rw[aD]at hl;obtain⟨ti,ht,hl⟩:=hl;split at hl
  ·
   rename_i id n i sz off hx;split at hl
   · rename_i T au l J;obtain⟨⟨h1,h2,h3⟩,hl⟩:=hl;rw[aD]at hl;obtain⟨u,hg,hK⟩:=hl;obtain⟨y,hr,hv,hm⟩:=aX5 h ht hx J h1 h2 h3 hg;exact ab hK (by simp[execOp,ho,hr]) hv hm
   grind
  grind
 ·
  rename_i t x y ho;rw[aD]at hl;obtain⟨ti,ht,hl⟩:=hl;split at hl
  ·
   rename_i id n i sz off hx;split at hl
   · rename_i T au l J;obtain⟨⟨h1,h2,h3,h4,h5⟩,hl⟩:=hl;rw[aD]at hl;obtain⟨u,hg,hK⟩:=hl;obtain⟨w',hr,hA⟩:=aR5 h ht hx J h1 h2 h3 h4 h5 hg;exact⟨undef,w',⟨_,_,_,hK,(hA o.dst undef hd).weaken hM⟩,.inr ⟨by simp[execOp,ho,hr],rfl⟩⟩
   grind
  grind
 ·
  rename_i x ho;split at hl
  · rename_i id n i sz off hx;obtain⟨g,cap,hρ,he⟩:=live hx hl.1;have hm:=h.evm x;rw[hx]at hm;exact ab hl.2 (by simp[execOp,ho,he]) (jH hρ) hm
  grind
 ·
  rename_i t x f ho;obtain⟨fs,fd,tf,i,d,zv,hu,hf,U,hK⟩:=wL hl;have hp:0<i.size:=by rw[U.size];exact U.pos
  split at hK
  · rename_i id n j sz off hx;obtain⟨g,cap,hρ,he⟩:=live hx hK.1;have hm:=h.evm x;rw[hx]at hm;refine ab hK.2 (y:= .pointer (some ⟨g,j*sz+(off+fd.offset),none⟩)) ?_ (jH hρ) (by simpa[HV.men]using hm);simp[execOp,ho,he,Instr.fieldAt,D4 hu,hf,Instr.sureAddr,pM U.info hp,eS,BV]
  grind
 ·
  rename_i t x ix ho;rw[aD]at hl;obtain⟨ti,ht,hl⟩:=hl;obtain⟨i0,d0,bb,U⟩:=bF ht;split at hl
  ·
   rename_i el k i ah bz;have I:=U.d_;rw[ah]at I;have hu:P.underlying t=some (.slice el):=by
    rw[U.under];congr 1;cases d0<;>simp[tyd]at I;rw[I]
   rw[aD]at hl;obtain⟨te,af,hl⟩:=hl;obtain⟨ie,de,bf,ae⟩:=bF af;split at hl
   ·
    rename_i id n hx;split at hl
    ·
     rename_i T sz l J;obtain⟨⟨h1,h2⟩,⟨h3,h4⟩,hK⟩:=hl;obtain⟨bj,xs,hρ,he,hlen,bu,ba,how⟩:=wT h hx J h1;have hm:=h.evm x;rw[hx]at hm;have an:(sizeOf el).run P w= .ok te.size w:=by rw[bS ae.info,ae.size]
     rcases how.2 with⟨rfl,hz⟩|⟨g,cap,cur,rfl,_⟩
     · omega
     · refine ab hK (y:= .pointer (some (⟨g,i.toNat*sz+0,none⟩))) ?_ (jH hρ) (by simpa[HV.men]using hm);simp[execOp,ho,he,eC h bz,Instr.indexAt,asIntOf,D4 hu,h3,h4,an,h2,eS]
    · exact hl.elim
   · exact hl.elim
  grind
 ·
  rename_i t x lo hi ho;rw[aD]at hl;obtain⟨ti,ht,hl⟩:=hl;obtain⟨i0,d0,bb,U⟩:=bF ht;split at hl
  ·
   rename_i el id n l0 sz m ah hx;have I:=U.d_;rw[ah]at I;have hu:P.underlying t=some (.slice el):=by rw[U.under];congr 1;cases d0<;>simp[tyd]at I;rw[I]
   split at hl
   ·
    rename_i T au L J;rw[aD]at hl;obtain⟨te,af,⟨rfl,hn,bn,rfl,rfl,cc⟩,hl⟩:=hl;obtain⟨ie,de,bf,ae⟩:=bF af;rw[aD]at hl;obtain⟨ag,hlo,hl⟩:=hl;rw[aD]at hl;obtain⟨ao,ar,hb,hK⟩:=hl;obtain⟨g,cap,xs,hρ,he,ax,bu,ba,how⟩:=tX h hx J hn bn;have bl:a.eval x= .slice (some ⟨g,0,none⟩) m cap:=by rw[he];simp
    have aq:=dH (P:=P) (w:=w) (a:=a) true m cap (nC h hlo) (nC h ar) hb (by omega);have an:(sizeOf el).run P w= .ok te.size w:=by rw[bS ae.info,ae.size]
    have hid:=h.evm x;rw[hx]at hid;refine ab hK (y:= .slice (if cap=ag.toNat then some ⟨g,0,none⟩else(some (⟨g,0,none⟩:Addr)).map (·.add (ag.toNat*te.size))) (ao.toNat-ag.toNat) (cap-ag.toNat)) ?_ ?_ (by simpa[HV.men]using hid)
    ·
     have:(Instr.sliceAt t (a.eval x) (lo.map a.eval) (hi.map a.eval) none).run P w= .ok (.slice (if cap=ag.toNat then some ⟨g,0,none⟩else(some (⟨g,0,none⟩:Addr)).map (·.add (ag.toNat*te.size))) (ao.toNat-ag.toNat) (cap-ag.toNat)) w:=by
      rw[bl];simp only[Instr.sliceAt,G6,D4 hu,E6,Instr.slice,aq,an,I7]
     simp[execOp,ho,this]
    ·
     refine dD ?_ rfl rfl;simp only[RepH];refine⟨_,rfl,by simp[Value.oneCell'],fun bj h1=>?_,fun b h1=>by rw[hρ]at h1;cases h1⟩;rw[hρ]at h1;cases h1;refine⟨by simp[Hl.hlen],fun _ g' bd e'=>?_⟩;cases e';congr 1;by_cases hc:cap=ag.toNat
     · simp[hc]
     ·
      simp only[hc,L8,I2,E8];by_cases hz:ag.toNat*te.size=0
      · simp[Addr.add,hz]
      · simp[Addr.add,hz]
   · exact hl.elim
  ·
   rename_i el id n ah hx;have I:=U.d_;rw[ah]at I;have hu:P.underlying t=some (.slice el):=by rw[U.under];congr 1;cases d0<;>simp[tyd]at I;rw[I]
   split at hl
   ·
    rename_i T au L J;rw[aD]at hl;obtain⟨te,af,hn,hl⟩:=hl;obtain⟨ie,de,bf,ae⟩:=bF af;rw[aD]at hl;obtain⟨ag,hlo,hl⟩:=hl;rw[aD]at hl;obtain⟨ao,ar,⟨rfl,cd,cf⟩,hK⟩:=hl;obtain⟨bj,xs,hρ,he,hlen,_,_,how⟩:=nN h hx J hn;have an:(sizeOf el).run P w= .ok te.size w:=by rw[bS ae.info,ae.size]
    have hid:=h.evm x;rw[hx]at hid;rcases how.2 with⟨rfl,hz⟩|⟨g,cap,cur,rfl,_,_,ax,_⟩
    ·
     subst hz;have aq:=dH (P:=P) (w:=w) (a:=a) true 0 0 (nC h hlo) (nC h ar) (by omega) (by omega);have h0:ao.toNat=0:=by omega
     refine ab hK (y:= .slice none 0 0) ?_ ?_ (by rw[h0];simpa[cI,HV.men]using hid)
     ·
      have:(Instr.sliceAt t (a.eval x) (lo.map a.eval) (hi.map a.eval) none).run P w= .ok (.slice none 0 0) w:=by
       rw[he];simp only[Instr.sliceAt,G6,D4 hu,E6,Instr.slice,aq,an,I7];simp[h0]
      simp[execOp,ho,this]
     · rw[h0,show cI id 0 te.size 0= .own id 0 from rfl];refine dD ?_ rfl rfl;simp only[RepH];exact⟨_,rfl,by simp[Value.oneCell'],fun bk h1=>by rw[hρ]at h1;cases h1;exact⟨by simp[Hl.hlen],fun _=>rfl⟩⟩
    ·
     have aq:=dH (P:=P) (w:=w) (a:=a) true n cap (nC h hlo) (nC h ar) (by omega) ax;refine ab hK (y:= .slice (some ⟨g,0,none⟩) ao.toNat cap) ?_ ?_ (by unfold cI;split<;>simpa[HV.men]using hid)
     ·
      have:(Instr.sliceAt t (a.eval x) (lo.map a.eval) (hi.map a.eval) none).run P w= .ok (.slice (some ⟨g,0,none⟩) ao.toNat cap) w:=by
       rw[he];simp only[Instr.sliceAt,G6,D4 hu,E6,Instr.slice,aq,an,I7];simp[Addr.add]
      simp[execOp,ho,this]
     ·
      unfold cI;split
      · rename_i bq;refine dD ?_ rfl rfl;simp only[RepH];exact⟨_,rfl,by simp[Value.oneCell'],fun bk h1=>by rw[hρ]at h1;cases h1;rw[bq];exact⟨by simp[Hl.hlen],fun _=>rfl⟩⟩
      · refine dD ?_ rfl rfl;simp only[RepH];refine⟨_,rfl,by simp[Value.oneCell'],fun bk h1=>?_,fun b h1=>by rw[hρ]at h1;cases h1⟩;rw[hρ]at h1;cases h1;refine⟨by simp[Hl.hlen],fun _ g' bd e'=>?_⟩;cases e';simp
   · exact hl.elim
  grind
 ·
  rename_i t x y ho;split at hl
  ·
   rename_i id z hx hy;split at hl
   ·
    rename_i es ck J;obtain⟨l,rfl,⟨kt,et,bh,aw,hz⟩,hK⟩:=hl;obtain⟨b,h1,h2,h3⟩:=bH0 h hx J;obtain⟨r,f1,f2⟩:=sV z 0 0 l;have f3:Instr.findNow (.int .i64) (.int .i64 z) (jK l).toList 0=some r:=by simpa[jK]using f1
    refine ab hK (y:= .tuple #[.string ⟨((lkG l z).getD []).toArray⟩,.bool (lkG l z).isSome]) ?_ ?_ (by simp[HV.men,HV.menL])
    ·
     cases hl:lkG l z with
     |none=>
      rw[hl]at f2;have hr:r=none:=by cases r with|none=>rfl|some x=>simp at f2
      subst hr;simp[execOp,ho,h2,eC h hy,Instr.lookup,D4 bh,L7 h3,bG9 aw,Instr.findKey,D4 aw,f3,hz,Result.andThen]
     |some s=>
      rw[hl]at f2;obtain⟨j,rfl⟩: ∃j,r=some (j,.string ⟨s.toArray⟩):=by
       cases r with
       |none=>simp at f2
       |some x=>obtain⟨j,v⟩:=x;simp at f2;exact⟨j,by rw[f2]⟩
      simp[execOp,ho,h2,eC h hy,Instr.lookup,D4 bh,L7 h3,bG9 aw,Instr.findKey,D4 aw,f3,Result.andThen]
    · refine⟨?_,rfl⟩;simp only[RepH];exact⟨[_,_],rfl,by simp only[RepHV];exact⟨_,_,rfl,bQ (by simp[RepC]) rfl rfl,_,_,rfl,bQ (by simp[RepC]) rfl rfl,rfl⟩⟩
   · exact hl.elim
  · exact hl.elim
 ·
  rename_i cl ho;split at hl
  ·
   rename_i x t ak ay bt;have aa:cl.args= #[x]:=by grind
   have ai:cl.argTypes= #[t]:=by grind
   rw[aD]at hl;obtain⟨ti,ht,hl⟩:=hl;obtain⟨i0,d0,bb,U⟩:=bF ht;split at hl
   ·
    rename_i el ah;have I:=U.d_;rw[ah]at I;have hu:P.underlying t=some (.slice el):=by rw[U.under];congr 1;cases d0<;>simp[tyd]at I;rw[I]
    rw[aD]at hl;obtain⟨l,aj,hK⟩:=hl;have br:hreadA (ev fr x) ob=some l:=by
     unfold hreadH at aj;split at aj
     ·
      rename_i ca;split at aj
      · rename_i bx;simp only[hreadA,ca,bx];exact aj
      · cases aj
     · cases aj
    obtain⟨ad,m,cap,xs,he,hm,_⟩:=yB h br;refine ab hK ?_ (eU _ _ _ _ _) (by simp[HV.men]);simp[execOp,ho,resolve,ak,aa,ai,invoke,builtin,Builtin.len_,D4 hu,he,goInt,hm]
   · exact hl.elim
  ·
   rename_i s x t t' ak ay bt;have aa:cl.args= #[s,x]:=by grind
   have ai:cl.argTypes= #[t,t']:=by grind
   rw[aD]at hl;obtain⟨ti,ht,hl⟩:=hl;obtain⟨i0,d0,bb,U⟩:=bF ht;split at hl
   ·
    rename_i el ah;have I:=U.d_;rw[ah]at I;have hu:P.underlying t=some (.slice el):=by rw[U.under];congr 1;cases d0<;>simp[tyd]at I;rw[I]
    rw[aD]at hl;obtain⟨te,af,hl⟩:=hl;split at hl
    ·
     rename_i id n lo sz m hs;split at hl
     · rename_i e' au l J;rw[aD]at hl;obtain⟨lx,hx,⟨rfl,h1,h2,rfl,rfl,rfl,rfl,h3,h4⟩,bp,hK⟩:=hl;obtain⟨y,w',hr,hA⟩:=aI3 (ty:=o.type) h hu af hs J hx h1 h2 h3 h4 bp o.dst hd;exact .val (by simp[execOp,ho,resolve,ak,aa,ai,invoke,builtin,hr]) ⟨_,_,_,hK,hA.weaken hM⟩
     · exact hl.elim
    ·
     rename_i id n hs;rw[aD]at hl;obtain⟨l2,hx,⟨rfl,bc⟩,hl⟩:=hl;split at hl
     · rename_i e' sz l J;obtain⟨⟨rfl,rfl,rfl⟩,hb,az,hK⟩:=hl;obtain⟨cg,xs,hρ,cb,hlen,aj,ba,how⟩:=wT h hs J rfl;obtain⟨y,w',ρ',hr,hA⟩:=rZ (nid:=nid) (ty:=o.type) h hM hu af hx bc o.dst hd rfl (h.mo id _ J).2 (hM _ (h.mo id _ J).1) (.inr ⟨hρ,J⟩) cb aj ba how hb az;exact .val (by simp[execOp,ho,resolve,ak,aa,ai,invoke,builtin,hr]) ⟨_,_,_,hK,hA⟩
     · exact hl.elim
    · rename_i hs;rw[aD]at hl;obtain⟨l2,hx,⟨rfl,bc⟩,hl⟩:=hl;obtain⟨hb,az,hK⟩:=hl;obtain⟨y,w',ρ',hr,hA⟩:=rZ (nid:=nid) (ty:=o.type) (s:=s) (l:=[]) (xs:=[]) h hM hu af hx bc o.dst hd rfl (by simp[HV.menL]) bg (.inl ⟨hn,rfl⟩) (zI h hs) (by simp[RepHL]) (by simp) (Z5 w 0 el te.size) hb (by simpa using az);exact .val (by simp[execOp,ho,resolve,ak,aa,ai,invoke,builtin,hr]) ⟨_,_,_,hK,hA⟩
    · exact hl.elim
   · exact hl.elim
  grind
 grind
end
def kC (nid:Nat)(o:Op)(e:Operand→HV):Option Nat:=
 match o with
 | .buildSlice _ _ _=>some nid
 | .call c=>match c.callee,c.args.toList with
  | .builtin .append,[s,_]=>match e s with
   | .own id _=>some id
   | .c .nils=>some nid
   |_=>none
  |_,_=>none
 |_=>none
def bH5 (id:Nat)(ob:Ob)(K:HV→Ob→Prop):HV→Ob→Prop:=fun v ob'=> ∃n el sz l,v= .own id n∧ob'=upd ob id (some (.row el sz l))∧n=l.length∧K (.c (.slc l)) (upd ob id (some .dead))
def aR6 (P:Program)(nid:Nat)(o:Op)(e:Operand→HV)(ob:Ob)(K:HV→Ob→Prop):Prop:=
 hop P nid o e ob K∨(∃id,kC nid o e=some id∧hop P nid o e ob (bH5 id ob K))∨hopH P nid o e ob K
variable {id:Nat}
theorem dC6 (hm:kC nid o e=some id)(h:hop P nid o e ob K):
  ∃n el sz l,K (.own id n) (upd ob id (some (.row el sz l)))∧(∀ob':Ob,(∀i∈touch o e,ob' i=ob i)→ ∀K':HV→Ob→Prop,K' (.own id n) (upd ob' id (some (.row el sz l)))→hop P nid o e ob' K')∧
   (id=nid∨(isEff o=true∧id∈touch o e))∧bU o=false:=by
 unfold kC at hm;split at hm
 ·
  rename_i t len ps;cases hm;simp only[hop]at h;rw[aD]at h;obtain⟨ti,ht,h⟩:=h;split at h
  · rename_i el hd;rw[aD]at h;obtain⟨te,ab,h⟩:=h;rw[aD]at h;obtain⟨l,hl,h1,hK⟩:=h;refine⟨len,el,te.size,l,hK,fun ob' _ K' ag=>?_,.inl rfl,rfl⟩;grind[hop,hlift_some]
  grind
 ·
  rename_i cl;split at hm
  ·
   rename_i s x I U;split at hm
   ·
    rename_i id' n hs;cases hm;unfold hop at h;simp only[I,U]at h;split at h;all_goals first|(exact h.elim)|skip
    · grind
    ·
     rename_i s' x' t t' _ e2 ah;cases e2;have J:touch (.call cl) e=(e s).ids++(e x).ids:=by simp only[touch,I,U,G3,I9,J7]
     by_cases aa:t'=t
     case neg=>
      rw[A7 aa]at h;unfold happends at h;rw[aD]at h;obtain⟨ti,ht,h⟩:=h;rw[aD]at h;obtain⟨tu,ak,h⟩:=h;split at h
      ·
       rename_i el bs ae an hx;rw[aD]at h;obtain⟨te,ab,ad,h⟩:=h;rw[hs]at h;simp only at h;split at h
       · rename_i e' sz l ho;refine⟨_,_,_,_,h.2.2.2,fun ob' af K' ag=>?_,.inr ⟨by simp only[isEff,I],by rw[J,hs];simp[HV.ids]⟩,by simp[bU,I]⟩;have aj:=af id (by rw[J,hs];simp[HV.ids]);simp only[hop,I,U,ah];rw[A7 aa];simp only[happends,ht,ak,hlift_some,ae,an,hx,ab,hs,aj,ho];exact⟨ad,h.1,h.2.1,h.2.2.1,ag⟩
       · exact h.elim
      · exact h.elim
     rw[B1 aa]at h;have e2: ∀(ob':Ob) (K':HV→Ob→Prop),happend2 P t (e s) (e x) nid ob' K'=happend P t (e s) (e x) nid ob' K':=fun ob' K'=>by grind[happend2]
     rw[e2]at h;unfold happend at h;rw[aD]at h;obtain⟨ti,ht,h⟩:=h;split at h
     ·
      rename_i el ae;rw[aD]at h;obtain⟨te,ab,h⟩:=h;rw[aD]at h;obtain⟨l2,ai,ad,h⟩:=h;rw[hs]at h;simp only at h;split at h
      · rename_i e' sz l ho;refine⟨_,_,_,_,h.2.2.2,fun ob' af K' ag=>?_,.inr ⟨by simp only[isEff,I],by grind[HV.ids]⟩,by simp[bU,I]⟩;simp only[hop,I,U,ah];rw[B1 aa];rw[e2];simp only[happend,ht,hlift_some,ae,ab];rw[gG (fun i hi=>af i (by rw[J];exact L3 _ hi)),ai];simp only[hlift_some,hs];rw[af id (by rw[J,hs];simp[HV.ids]),ho];exact⟨ad,h.1,h.2.1,h.2.2.1,ag⟩
      · exact h.elim
     · exact h.elim
    all_goals(rename_i e1 _ _;cases e1)
   ·
    rename_i hs;cases hm;unfold hop at h;simp only[I,U]at h;split at h;all_goals first|(exact h.elim)|skip
    · grind
    ·
     rename_i s' x' t t' _ e2 ah;cases e2;have J:touch (.call cl) e=(e s).ids++(e x).ids:=by simp only[touch,I,U,G3,I9,J7]
     by_cases aa:t'=t
     case neg=>
      rw[A7 aa]at h;unfold happends at h;rw[aD]at h;obtain⟨ti,ht,h⟩:=h;rw[aD]at h;obtain⟨tu,ak,h⟩:=h;split at h
      · rename_i el bs ae an hx;rw[aD]at h;obtain⟨te,ab,ad,h⟩:=h;rw[hs]at h;exact h.elim
      · exact h.elim
     rw[B1 aa]at h;have e2: ∀(ob':Ob) (K':HV→Ob→Prop),happend2 P t (e s) (e x) nid ob' K'=happend P t (e s) (e x) nid ob' K':=fun ob' K'=>by grind[happend2]
     rw[e2]at h;unfold happend at h;rw[aD]at h;obtain⟨ti,ht,h⟩:=h;split at h
     · rename_i el ae;rw[aD]at h;obtain⟨te,ab,h⟩:=h;rw[aD]at h;obtain⟨l2,ai,ad,h⟩:=h;rw[hs]at h;simp only at h;refine⟨_,_,_,_,h.2.2,fun ob' af K' ag=>?_,.inl rfl,by simp[bU,I]⟩;simp only[hop,I,U,ah];rw[B1 aa];rw[e2];simp only[happend,ht,hlift_some,ae,ab];rw[gG (fun i hi=>af i (by rw[J];exact L3 _ hi)),ai];simp only[hlift_some,hs];exact⟨ad,h.1,h.2.1,ag⟩
     · exact h.elim
    all_goals(rename_i e1 _ _;cases e1)
   grind
  grind
 grind
theorem aB4 (h:aR6 P nid o e ob K):
  ∃v u,K v (app u ob)∧(∀ob':Ob,(∀id∈touch o e,ob' id=ob id)→ ∀U:HV→Ob→Prop,U v (app u ob')→aR6 P nid o e ob' U)∧(∀p,u=some p→p.1=nid∨(isEff o=true∧p.1∈touch o e))∧(bU o=true→u=none):=by
 rcases h with h|⟨id,hm,h⟩|h
 rotate_left 2
 · obtain⟨v,u,h1,h2,h3,h4⟩:=bH2 h;exact⟨v,u,h1,fun ob' I U J=> .inr (.inr (h2 ob' I U J)),h3,h4⟩
 · obtain⟨v,u,h1,h2,h3,h4⟩:=aK5 h;exact⟨v,u,h1,fun ob' I U J=> .inl (h2 ob' I U J),h3,h4⟩
 ·
  obtain⟨n,el,sz,l,hK,ab,ag,hq⟩:=dC6 hm h;obtain⟨n',af,ad,l',hv,ae,hn,J⟩:=hK;cases hv;have hrow:some (HO.row el sz l)=some (HO.row af ad l'):=by
   have:=congrFun ae id;simp_all
  cases hrow;refine⟨.c (.slc l),some (id,.dead),J,fun ob' I ah aa=> .inr (.inl ⟨id,hm,ab ob' I _ ⟨n,el,sz,l,rfl,rfl,hn,aa⟩⟩),fun p hp=>?_,fun ai=>?_⟩;all_goals grind
theorem rA (h:aR6 P nid o e ob K):
  ∃v u,K v (app u ob)∧(∀ob':Ob,(∀id∈touch o e,ob' id=ob id)→ ∀I:HV→Ob→Prop,I v (app u ob')→aR6 P nid o e ob' I)∧(∀p,u=some p→p.1=nid∨(isEff o=true∧p.1∈touch o e)):=
 let⟨v,u,h1,h2,h3,_⟩:=aB4 h
 ⟨v,u,h1,h2,h3⟩
variable {d:Option Nat}{fr:Fr}
theorem RepA'.die {c:Ctx}{M:Nat→Prop}{a:Act}{w:World}{ρ:Env}{n sz:Nat}{el:TypeId}{l:List CV}
  (h:RepA' c M (updo fr d (.own id n)) (upd ob id (some (.row el sz l))) a w ρ) (hn:n=l.length): ∃U,RepA' c M (updo fr d (.c (.slc l))) (upd ob id (some .dead)) a w U:=by
 let U:Env:=fun i=>if i=id then none else ρ i
 have I: ∀i L,U i=some L→ρ i=some L:=fun i L hL=>by grind
 have ae: ∀i∈[id],U i=none:=fun i hi=>by grind
 have aa: ∀b,Own U b→Own ρ b:=fun b ⟨i,L,h1,h2⟩=>⟨i,L,I i L h1,h2⟩;have ab:Stay w (Owned ρ c.X) w (Owned U c.X):=Stay.same (fun b _ hb=>hb.imp (fun x=>x) (aa b));have ad:Moves M ρ U:=fun i L _ hL=>⟨L,I i L hL,.inl rfl⟩;refine⟨U,⟨fun i o ho=>?_,fun i hi=>?_,fun i i' L L' b h1 h2 h3 h4=>h.s.apart i i' L L' b (I _ _ h1) (I _ _ h2) h3 h4,fun i L b h1 h2=>h.s.xb i L b (I _ _ h1) h2⟩,fun t ht=>?_,fun t=>?_,fun i o ho=>?_,h.m0,?_,?_,h.defers,h.size,h.xlt⟩
 ·
  by_cases e:i=id
  · subst e;rw[aR]at ho;cases ho;show U i=none;grind
  ·
   rw[bE _ _ e]at ho;have hid:U i=ρ i:=by simp only[U,e,L8]
   have J:upd ob id (some (.row el sz l)) i=some o:=by rw[bE _ _ e];exact ho
   exact RepO.stay ab ad (h.mo i o J).2 hid (fun _ _ _ _=>rfl) (h.s.objs i o J)
 ·
  by_cases e:i=id
  · grind
  ·
   have J:upd ob id (some (.row el sz l)) i=none:=by rw[bE _ _ e]at hi⊢;exact hi
   have:=h.s.none i J;grind
 ·
  by_cases e:d=some t
  ·
   subst e;have h0:=h.f t (by simp[updo,upd]);simp only[updo,aR]at h0⊢;have:=kO (cl:=[id]) h.s ae I ab h0.1;have ec:HV.close (upd ob id (some (.row el sz l))) [id] (.own id n)= .c (.slc l):=by simp[HV.close,aR,hn]
   rw[ec]at this;exact⟨this,by rw[←h0.2];rfl⟩
  ·
   have e1: ∀v:HV,updo fr d v t=fr t:=fun v=>by
    cases d with
    |none=>rfl
    |some k=>exact bE _ _ (fun e'=>e (by rw[e']))
   rw[e1]at ht⊢;have h0:=h.f t (by grind);rw[e1]at h0;have hm:=h.mf t;rw[e1]at hm;exact⟨RepH.stay ab ad hm h0.1,h0.2⟩
 ·
  cases d with
  |none=>exact h.mf t
  |some k=>
   by_cases e:t=k
   · simp_all[updo,aR,HV.men]
   · have:=h.mf t;simp_all[updo,bE]
 ·
  by_cases e:i=id
  · subst e;rw[aR]at ho;cases ho;exact⟨(h.mo i _ (aR _ _ _)).1,trivial⟩
  ·
   have J:upd ob id (some (.row el sz l)) i=some o:=by rw[bE _ _ e]at ho⊢;exact ho
   exact h.mo i o J
 · exact h.base.trans ⟨fun _ _ _=>rfl,fun b hb=> .inl (aa b hb),E3 _,rfl,rfl,rfl⟩
 · exact Moves.trans (fun _ h=>h) h.moves (fun i L _ hL=>⟨L,I i L hL,.inl rfl⟩)
def hcallOf (o:Op):Option (Operand×List Operand):=
 match o with
 | .call c=>match c.callee with
  | .value f=>some (f,c.args.toList)
  |_=>none
 |_=>none
def dn (nd:Bool)(v:HV):HV:=if nd then v else v.den
def fD (P:Program)(av:List Nat)(nid:Nat)(o:Op)(e:Operand→HV)(ob:Ob)(K:HV→Ob→Prop):Prop:=
 match hcallOf o with
 |some (f,xs)=>(∀x∈xs,e x≠ .junk)∧ ∃nd:Bool,match e f with
  | .c (.fn g)=>HCallL P av g (xs.map fun x=>dn nd (e x)) ob nid K
  | .clo g caps=>HCallL P av g ((xs.map fun x=>dn nd (e x))++caps) ob nid K
  |_=>False
 |none=>(∀id∈touch o e,id∉av∧(ob id).isSome=true)∧aR6 P nid o e ob K
def hguard (ops:Array Oper)(o:Oper)(fr:Fr):Option Bool:=
 match o.guard with
 |none=>some true
 |some (j,want)=>match(ops[j]?).bind (·.dst)with
  |some d=>match fr d with
   | .c (.bool b)=>some (b==want)
   | .tup _=>some false
   |_=>none
  |none=>none
def eE (P:Program)(ops:Array Oper)(nx:Nat)(av:List Nat)(i:Nat)(K:Fr→Ob→Prop)(fr:Fr)(ob:Ob):Prop:=
 match ops[i]? with
 |none=>False
 |some o=>match hguard ops o fr with
  |some true=>fD P av (nx+4*i) o.op (ev fr) ob fun v ob'=>K (updo fr o.dst v) ob'
  |some false=>K (updo fr o.dst (.tup [])) ob
  |none=>False
theorem yC {e e':Operand→HV}: ∀{ps:List (Nat×Operand)} {hs:List HV},(∀p∈ps,e' p.2=e p.2)→hfill e' ps hs=hfill e ps hs
 |[],_,_=>rfl
 |(i,x)::ps,hs,h=>by
  have J:e' x=e x:=h (i,x) (by simp);have I:=fun hs=>yC (e:=e) (e':=e') (ps:=ps) (hs:=hs) (fun p hp=>h p (by grind));grind[hfill]
theorem sB {e e':Operand→HV}: ∀{ps:List (Nat×Operand)} {k sz:Nat},(∀p∈ps,e' p.2=e p.2)→hclosed e' ps k sz=hclosed e ps k sz
 |[],_,_,_=>rfl
 |(i,x)::ps,k,sz,h=>by
  have J:e' x=e x:=h (i,x) (by simp);have I:=fun k=>sB (e:=e) (e':=e') (ps:=ps) (k:=k) (sz:=sz) (fun p hp=>h p (by grind));grind[hclosed]
theorem uC (h: ∀y∈x.toList,e' y=e y):x.map e'=x.map e:=by
 cases x with
 |none=>rfl
 |some y=>grind
theorem bH6 {xs:List Operand}(h: ∀y∈xs,e' y=e y):xs.map e'=xs.map e:=O6 h
theorem pS {e e':Operand→HV}: ∀{xs:List Operand},(∀y∈xs,e' y=e y)→xs.flatMap (fun x=>(e' x).ids)=xs.flatMap (fun x=>(e x).ids)
 |[],_=>rfl
 |x::xs,h=>by simp only[G3,h x (by simp),pS (xs:=xs) (fun y I=>h y (by grind))]
theorem aX6 (h: ∀x∈o.operands,e' x=e x):touch o e'=touch o e:=by
 cases o<;>simp only[touch]<;>try rfl
 case load t x=>rw[h x (by simp[Op.operands])]
 case fieldAddr t x f=>rw[h x (by simp[Op.operands])]
 case nilCheck x=>rw[h x (by simp[Op.operands])]
 case indexAddr t x i=>rw[h x (by simp[Op.operands])]
 case store t x y=>rw[h x (by simp[Op.operands])]
 all_goals simp_all[Op.operands,builtin,pS,Call.operands]
theorem aK6 (h: ∀x∈o.operands,e' x=e x)(hl:hop P nid o e ob K):hop P nid o e' ob K:=by
 unfold hop at hl;split at hl
 · grind[hop,Op.operands]
 · grind[hop,Op.operands]
 · grind[hop,Op.operands]
 · exact hl
 · grind[hop,Op.operands]
 · rename_i t ps;have: ∀p∈ps.toList,e' p.2=e p.2:=fun p hp=>h p.2 (by simp only[Op.operands,AH,H0];grind);grind[hop,iU,yC]
 · rename_i t n ps;have: ∀p∈ps.toList,e' p.2=e p.2:=fun p hp=>h p.2 (by simp only[Op.operands,AH,H0];grind);simp only[hop,sB this];grind
 · grind[hop,Op.operands]
 · grind[hop,Op.operands]
 · grind[hop,Op.operands]
 · grind[hop,Op.operands]
 · grind[hop,Op.operands]
 · grind[hop,Op.operands]
 · grind[Op.operands,hop,bH6]
 · grind[Op.operands,uC,hop]
 · grind[Op.operands,uC,hop]
 · exact hl
 · grind[hop,Op.operands]
 · grind[hop,Op.operands]
 · grind[hop,Op.operands]
 · grind[hop,Op.operands]
 · grind[hop,Op.operands]
 · grind[hop,Op.operands]
 · grind[hop,Op.operands]
 ·
  rename_i c;have J: ∀y∈c.args.toList,e' y=e y:=fun y I=>h y (by grind[Op.operands,Call.operands]);split at hl
  · grind[hop]
  · grind[hop]
  · grind[hop]
  all_goals grind[hop]
 all_goals grind[hop,Op.operands]
theorem bH7 (h: ∀x∈o.operands,e' x=e x):kC nid o e'=kC nid o e:=by
 unfold kC;split;all_goals grind[Op.operands,Call.operands]
theorem bH8 (h: ∀x∈o.operands,e' x=e x)(hl:aR6 P nid o e ob K):aR6 P nid o e' ob K:=by
 rcases hl with hl|⟨id,hm,hl⟩|hl
 · exact .inl (aK6 h hl)
 · exact .inr (.inl ⟨id,by grind[bH7],aK6 h hl⟩)
 · exact .inr (.inr (bH3 h hl))
variable {av:List Nat}
theorem uD (h: ∀x∈o.operands,e' x=e x)(hl:fD P av nid o e ob K):fD P av nid o e' ob K:=by
 unfold fD at hl⊢;cases I:hcallOf o with
 |none=>
  grind[aX6,bH8]
 |some p=>
  obtain⟨f,xs⟩:=p;rw[I]at hl;simp only at hl⊢;have hf:e' f=e f∧ ∀y∈xs,e' y=e y:=by
   cases o<;>simp only[hcallOf]at I<;>try cases I
   rename_i c;split at I
   · grind[Op.operands,Call.operands]
   · grind
  simp_all[dn,O6]
variable {v:HV}
theorem cS3 {x:Operand}(h: ∀k,d=some k→x≠ .tmp k):ev (updo fr d v) x=ev fr x:=by
 cases d with
 |none=>rfl
 |some k=>
  cases x with
  |tmp t=>simp only[ev,updo];exact bE _ _ (fun e=>h k rfl (by rw[e]))
  |_=>rfl
variable {ops:Array Oper}
theorem pT {o:Oper}(h: ∀k,d=some k→k∉o.looksAt ops): ∀x∈o.op.operands,ev (updo fr d v) x=ev fr x:=by
 intro x hx;refine cS3 (fun k I e=>h k I ?_);subst e;unfold Oper.looksAt;refine T9 _ (List.mem_filterMap.2 ⟨.tmp k,by grind,rfl⟩)
theorem yD {o:Oper}(h: ∀k,d=some k→k∉o.looksAt ops):hguard ops o (updo fr d v)=hguard ops o fr:=by
 unfold hguard;cases I:o.guard with
 |none=>rfl
 |some p=>
  obtain⟨j,want⟩:=p;simp only;cases J:(ops[j]?).bind (·.dst)with
  |none=>rfl
  |some k=>
   simp only;have:updo fr d v k=fr k:=by
    cases d with
    |none=>rfl
    |some k'=>
     simp only[updo];refine bE _ _ (fun e=>h k' rfl ?_);grind[Oper.looksAt,List.mem_append_right]
   grind
theorem aK7 {I:Option Nat}{J:HV}(h: ∀k,d=some k→I≠some k):updo (updo fr d v) I J=updo (updo fr I J) d v:=by
 cases d with
 |none=>rfl
 |some k=>
  cases I with
  |none=>rfl
  |some k'=>
   have U:k≠k':=fun e=>h k rfl (by rw[e]);funext t;simp only[updo,upd];grind
def bN8 (F:List Nat)(ob ob':Ob):Prop:= ∀id∈F,ob' id=ob id
def bN9 (u:Option (Nat×HO))(av:List Nat)(nid:Nat):Prop:= ∀p,u=some p→p.1∈av∧ ¬(nid≤p.1∧p.1<nid+4)∧nid<p.1+10000
variable {u:Option (Nat×HO)}
theorem lK (h: ∀p,u=some p→p.1≠id):app u ob id=ob id:=by
 cases u with
 |none=>rfl
 |some p=>exact bE _ _ (fun e=>h p rfl e.symm)
theorem cD7 {u':Option (Nat×HO)}(h: ∀p I,u=some p→u'=some I→p.1≠I.1):app u (app u' ob)=app u' (app u ob):=by
 cases u with
 |none=>rfl
 |some p=>
  cases u' with
  |none=>rfl
  |some I=>
   have J:=h p I rfl rfl;funext t;simp only[app,upd];grind
variable {F av':List Nat}{args:List HV}{f:FuncId}
theorem yE (hu:bN9 u av nid)(ad: ∀x∈av',x∈av)
  (hF: ∀id∈F,id∈av∧(ob id).isSome=true) (U: ∀t,t<4→ob (nid+t)=none) (h:HCallL P av f args (app u ob) nid K):
  HCallL P av' f args ob nid (fun v ob'=>K v (app u ob')∧bN8 F ob ob'):=by
 obtain⟨σ,aa,lob,R,h1,h2,⟨h3,h4⟩,h5,h6,h7⟩:=h;have hσ: ∀p,u=some p→p.1∉σ:=fun p hp I=>by
  obtain⟨j,hj,e⟩:=L5 I;have e':σ.getD j 0=p.1:=by rw[B4,A9 hj];exact e
  have h9:=hu p hp;grind
 have af: ∀j o,lob j=some o→σ.getD j 0∈σ:=fun j o ho=>by
  have hj:=(h2.none j o ho).1;grind
 refine⟨σ,aa,lob,R,h1,h2,⟨h3,fun j hj=>(h4 j hj).imp (fun h I=>h (ad _ I)) (fun h=>h)⟩,h5,fun j o ho=>?_,fun r J hR hr=>⟨?_,fun id hid=>?_⟩⟩
 · grind[lK]
 ·
  have:=h7 r J hR hr;have e:bY (app u ob) σ nid J=app u (bY ob σ nid J):=by
   funext id;cases u with
   |none=>rfl
   |some p=>
    have h8:=hσ p rfl;have h9:=(hu p rfl).2.1;simp only[app,upd];by_cases hid:id=p.1
    ·
     subst hid;rw[B1 rfl];unfold bY;have:σ.findIdx? (· ==p.1)=none:=by
      rw[U6];intro y hy;simp only[J2,AD];intro e;exact h8 (e▸hy)
     rw[this];simp_all[A7,aR]
    simp_all[A7,bY,bE]
  grind
 ·
  by_cases I:id∈σ
  ·
   obtain⟨j,hj,e⟩:=L5 I;have e':σ.getD j 0=id:=by rw[B4,A9 hj];exact e
   rcases h4 j hj with h|⟨_,hl⟩
   · grind
   ·
    obtain⟨o,ho⟩:=h2.all j hj;have ab:=h6 j o ho;rw[e',lK (fun p hp e2=>hσ p hp (e2▸I))]at ab;unfold bY;have ae:σ.findIdx? (· ==id)=some j:=by
     rw[O0];refine⟨hj,by grind,fun k hk=>?_⟩;simp only[I6];intro ek;have:=(List.getElem_inj h3).1 (ek.trans e.symm);omega
    rw[ae];simp only[hl r J hR,ho,I2,ab]
  unfold bY;have h8:id∉σ:=I;have:σ.findIdx? (· ==id)=none:=by
   rw[U6];intro y hy;simp only[J2,AD];intro e;exact h8 (e▸hy)
  rw[this];simp only;split
  · rename_i hr;have:=U (id-nid) (by omega);grind
  · rfl
theorem aR7 (hu:bN9 u av nid)(aa: ∀x∈av',x∈av)
  (hF: ∀id∈F,(isEff o=true→id∈av)∧(ob id).isSome=true) (I: ∀t,t<4→ob (nid+t)=none) (h:fD P av nid o e (app u ob) K):
  fD P av' nid o e ob (fun v ob'=>K v (app u ob')∧bN8 F ob ob'):=by
 unfold fD at h⊢;cases hc:hcallOf o with
 |some p=>
  obtain⟨f,xs⟩:=p;rw[hc]at h;simp only at h⊢;have J:isEff o=true:=by
   cases o<;>simp only[hcallOf]at hc<;>try cases hc
   rename_i c;split at hc
   · grind[isEff]
   · grind
  obtain⟨h1,nd,h⟩:=h;refine⟨h1,nd,?_⟩;split at h
  · exact yE hu aa (fun id hid=>⟨(hF id hid).1 J,(hF id hid).2⟩) I h
  · exact yE hu aa (fun id hid=>⟨(hF id hid).1 J,(hF id hid).2⟩) I h
  grind
 |none=>
  rw[hc]at h;simp only at h⊢;obtain⟨ht,h⟩:=h;have af: ∀p,u=some p→p.1∉touch o e:=fun p hp ab=>(ht _ ab).1 (hu p hp).1;have ae: ∀id∈touch o e,app u ob id=ob id:=fun id hid=>lK (fun p hp e=>af p hp (e▸hid));obtain⟨v,u',hK,ad,U⟩:=rA h;refine⟨fun id hid=>⟨fun ab=>(ht id hid).1 (aa _ ab),by grind⟩,ad ob (fun id hid=>(ae id hid).symm) _ ⟨?_,fun id hid=>?_⟩⟩
  ·
   rw[cD7 (u:=u) (u':=u') (ob:=ob) (fun p p' hp ag e=>?_)]
   · grind
   ·
    rcases U p' ag with h1|⟨_,h1⟩
    · exact(hu p hp).2.1 ⟨by omega,by omega⟩
    grind
  ·
   refine lK (fun p hp e=>?_);rcases U p hp with h1|⟨h2,h1⟩
   · have:=I 0 (by omega);grind
   grind
variable {K':HV→Ob→Prop}
theorem HCall.mono (U: ∀x∈av',x∈av)(hK: ∀v ob,K v ob→K' v ob)(h:HCall P av f args ob nid K):HCall P av' f args ob nid K':=by
 obtain⟨σ,I,lob,R,h1,h2,⟨h3,h4⟩,h5,h6,h7⟩:=h;exact⟨σ,I,lob,R,h1,h2,⟨h3,fun s hs aa=>h4 s hs (U _ aa)⟩,h5,h6,fun r J hR hr=>hK _ _ (h7 r J hR hr)⟩
theorem HCallL.mono (U: ∀x∈av',x∈av)(hK: ∀v ob,K v ob→K' v ob)(h:HCallL P av f args ob nid K):HCallL P av' f args ob nid K':=by
 obtain⟨σ,I,lob,R,h1,h2,⟨h3,h4⟩,h5,h6,h7⟩:=h;exact⟨σ,I,lob,R,h1,h2,⟨h3,fun j hj=>(h4 j hj).imp (fun h aa=>h (U _ aa)) (fun h=>h)⟩,h5,h6,fun r J hR hr=>hK _ _ (h7 r J hR hr)⟩
theorem bU1 {I:HV→Ob→Prop}(J: ∀v ob,K v ob→I v ob)(h:aR6 P nid o e ob K):aR6 P nid o e ob I:=by
 obtain⟨v,u,U,h2,_⟩:=rA h;grind
theorem yF {U:HV→Ob→Prop}(I: ∀x∈av',x∈av)(J: ∀v ob,K v ob→U v ob)(h:fD P av nid o e ob K):fD P av' nid o e ob U:=by
 unfold fD at h⊢;split at h
 ·
  obtain⟨h1,nd,h⟩:=h;refine⟨h1,nd,?_⟩;split at h
  · exact h.mono I J
  · exact h.mono I J
  grind
 grind[id,bU1]
end Go.Hl
