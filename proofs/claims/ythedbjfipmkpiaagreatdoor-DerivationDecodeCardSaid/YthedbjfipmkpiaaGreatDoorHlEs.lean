/- HL, part Es: maps by number and text: their entries, and what is found in them. By an AI agent. -/
import Derived.Test.YthedbjfipmkpiaaGreatDoorHlK
import Derived.Test.YthedbjfipmkpiaaGreatDoorHlX
import Derived.Maps.RangeRun
set_option linter.unusedSimpArgs false
set_option linter.unusedVariables false
set_option linter.defProp false
namespace Go.Hl
open Go
/- Ids under other names. -/
mutual
def HV.ren (m:Nat→Nat):HV→HV
 | .junk=> .junk
 | .c v=> .c v
 | .agg l=> .agg (HV.renL m l)
 | .own id n=> .own (m id) n
 | .ptr id off=> .ptr (m id) off
 | .eptr id n i sz off=> .eptr (m id) n i sz off
 | .osl id n i sz off=> .osl (m id) n i sz off
 | .mapr id=> .mapr (m id)
 | .mrow id k n=> .mrow (m id) k n
 | .clo f caps=> .clo f (HV.renL m caps)
 | .opq v=> .opq v
 | .tup l=> .tup (HV.renL m l)
def HV.renL (m:Nat→Nat):List HV→List HV
 |[]=>[]
 |v::vs=>v.ren m::HV.renL m vs
end
theorem HV.ren_isAgg (m:Nat→Nat)(v:HV):(v.ren m).isAgg=v.isAgg:=by cases v<;>simp[HV.ren,HV.isAgg]
theorem HV.renL_c (m:Nat→Nat): ∀(l:List CV),HV.renL m (l.map .c)=l.map .c
 |[]=>rfl
 |v::vs=>by simp only[List.map_cons,HV.renL,HV.ren,HV.renL_c m vs]
def HO.ren (m:Nat→Nat):HO→HO
 | .box t v=> .box t (v.ren m)
 | .row e sz l=> .row e sz l
 | .mp e sz D=> .mp e sz D
 | .dead=> .dead
 | .tab T=> .tab T
 | .hrow e sz l=> .hrow e sz (HV.renL m l)
 | .raw es k=> .raw es k
 | .it j s q l=> .it (m j) s q l
mutual
theorem kG {w:World}{ρ:Env}{O:Nat→Prop}{m:Nat→Nat}: ∀{v:HV} {cs:List Value},RepH w ρ O (v.ren m) cs↔RepH w (fun i=>ρ (m i)) O v cs
 | .junk,cs=>by simp only[HV.ren,RepH]
 | .c _,cs=>by simp only[HV.ren,RepH]
 | .agg l,cs=>by simp only[HV.ren,RepH];exact pC
 | .own ..,cs=>by simp only[HV.ren,RepH]
 | .ptr ..,cs=>by simp only[HV.ren,RepH]
 | .eptr ..,cs=>by simp only[HV.ren,RepH]
 | .osl ..,cs=>by simp only[HV.ren,RepH]
 | .mapr ..,cs=>by simp only[HV.ren,RepH]
 | .mrow ..,cs=>by simp only[HV.ren,RepH]
 | .clo f caps,cs=>by simp only[HV.ren,RepH,mC (l:=caps)]
 | .opq _,cs=>by simp only[HV.ren,RepH]
 | .tup l,cs=>by simp only[HV.ren,RepH,mC (l:=l)]
theorem pC {w:World}{ρ:Env}{O:Nat→Prop}{m:Nat→Nat}: ∀{l:List HV} {cs:List Value},RepHL w ρ O (HV.renL m l) cs↔RepHL w (fun i=>ρ (m i)) O l cs
 |[],cs=>by simp only[HV.renL,RepHL]
 |v::vs,cs=>by simp only[HV.renL,RepHL,kG (v:=v),pC (l:=vs)]
theorem mC {w:World}{ρ:Env}{O:Nat→Prop}{m:Nat→Nat}: ∀{l:List HV} {xs:List Value},RepHV w ρ O (HV.renL m l) xs↔RepHV w (fun i=>ρ (m i)) O l xs
 |[],xs=>by simp only[HV.renL,RepHV]
 |v::vs,xs=>by simp only[HV.renL,RepHV,kG (v:=v),mC (l:=vs),HV.ren_isAgg]
end
mutual
theorem men_ren {M:Nat→Prop}{m:Nat→Nat}: ∀{v:HV},(v.ren m).men M↔v.men (fun i=>M (m i))
 | .junk=>by simp only[HV.ren,HV.men]
 | .c _=>by simp only[HV.ren,HV.men]
 | .agg l=>by simp only[HV.ren,HV.men];exact nT
 | .own .. =>by simp only[HV.ren,HV.men]
 | .ptr .. =>by simp only[HV.ren,HV.men]
 | .eptr .. =>by simp only[HV.ren,HV.men]
 | .osl .. =>by simp only[HV.ren,HV.men]
 | .mapr .. =>by simp only[HV.ren,HV.men]
 | .mrow .. =>by simp only[HV.ren,HV.men]
 | .clo f caps=>by simp only[HV.ren,HV.men];exact nT
 | .opq _=>by simp only[HV.ren,HV.men]
 | .tup l=>by simp only[HV.ren,HV.men];exact nT
theorem nT {M:Nat→Prop}{m:Nat→Nat}: ∀{l:List HV},HV.menL M (HV.renL m l)↔HV.menL (fun i=>M (m i)) l
 |[]=>by simp only[HV.renL,HV.menL]
 |v::vs=>by simp only[HV.renL,HV.menL,men_ren (v:=v),nT (l:=vs)]
end
theorem nU (m:Nat→Nat): ∀l:List HV,(HV.renL m l).length=l.length
 |[]=>rfl
 |v::vs=>by simp only[HV.renL,List.length_cons,nU m vs]
mutual
theorem aC2 (m:Nat→Nat): ∀v:HV,(v.ren m).cells=v.cells∧(v.ren m).sto=v.sto
 | .junk=>by simp[HV.ren]
 | .c v=>by simp[HV.ren]
 | .agg l=>by simp only[HV.ren,HV.cells,HV.sto,xS m l,and_self]
 | .own .. =>by simp[HV.ren,HV.cells,HV.sto]
 | .ptr .. =>by simp[HV.ren,HV.cells,HV.sto]
 | .eptr .. =>by simp[HV.ren,HV.cells,HV.sto]
 | .osl .. =>by simp[HV.ren,HV.cells,HV.sto]
 | .mapr .. =>by simp[HV.ren,HV.cells,HV.sto]
 | .mrow .. =>by simp[HV.ren,HV.cells,HV.sto]
 | .clo .. =>by simp[HV.ren,HV.cells,HV.sto]
 | .opq _=>by simp[HV.ren]
 | .tup _=>by simp[HV.ren,HV.cells,HV.sto]
theorem xS (m:Nat→Nat): ∀l:List HV,HV.cellsL (HV.renL m l)=HV.cellsL l∧HV.stoL (HV.renL m l)=HV.stoL l
 |[]=>by simp[HV.renL]
 |v::vs=>by simp only[HV.renL,HV.cellsL,HV.stoL,aC2 m v,xS m vs,and_self]
end
theorem xT {sz:Nat}(m:Nat→Nat): ∀l:List HV,(∀v∈HV.renL m l,v.cells=sz∧v.sto=true)↔ ∀v∈l,v.cells=sz∧v.sto=true
 |[]=>by simp[HV.renL]
 |v::vs=>by simp only[HV.renL,List.forall_mem_cons,xT m vs,aC2 m v]
variable {o:HO}{M:Nat→Prop}
theorem HO.men_ren {m:Nat→Nat}:(o.ren m).men M↔o.men (fun i=>M (m i)):=by
 cases o with
 |box t v=>exact Hl.men_ren
 |row _ _ _=>exact Iff.rfl
 |mp _ _ _=>exact Iff.rfl
 |dead=>exact Iff.rfl
 |tab _=>exact Iff.rfl
 |hrow _ _ _=>exact Hl.nT
 |raw _ _=>exact Iff.rfl
 |it _ _ _ _=>exact Iff.rfl
theorem HO.men_mono {M':Nat→Prop}(h: ∀i,M i→M' i)(ho:o.men M):o.men M':=by
 cases o with
 |box t v=>exact HV.men_mono h ho
 |row _ _ _=>trivial
 |mp _ _ _=>trivial
 |dead=>trivial
 |tab _=>trivial
 |hrow _ _ _=>exact HV.menL_mono h ho
 |raw _ _=>trivial
 |it _ _ _ _=>exact h _ ho
def eO (P:Program)(f:FuncId):Bool:=
 match P.funcs[f]? with
 |some fn=>fn.body.isSome&&!(fn.name== "runtime.NumGoroutine")
 |none=>false
structure Gave (w:World)(ρ:Env)(X:Nat→Prop)(k:Nat)(r:HV)(ob':Ob)(w':World)(ρ':Env)(x:Value):Prop where
 v:RepV w' ρ' (Owned ρ' X) r x
 s:RepS w' ρ' X ob'
 mr:r.men (· <k+4)
 mo: ∀id o,ob' id=some o→id<k+4∧o.men (· <k+4)
 stay:Stay2 w (Own ρ) w' (Own ρ')
 moves:Moves (· <k) ρ ρ'
def bI3 (P:Program)(f:FuncId):Bool:=
 match P.funcs[f]? with
 |some fn=>!(fn.name== "runtime.NumGoroutine")
 |none=>false
variable {f:FuncId}{P:Program}
theorem rV (h:eO P f=true):bI3 P f=true:=by
 unfold eO at h;unfold bI3;grind
def Does (P:Program)(f:FuncId)(args:Array Value)(w:World)(R:Ending→World→Prop):Prop:=
 (eO P f=true∧Calls P f args w R)∨(eO P f=false∧ ∃x,(callFunc f args).run P w= .ok (.value x) w∧R (.returned x) w)
variable {R:Ending→World→Prop}{w:World}{args:Array Value}
theorem Does.mono {R':Ending→World→Prop}(h:Does P f args w R)(hr: ∀e w',R e w'→R' e w'):Does P f args w R':=
 h.imp (fun h=>⟨h.1,h.2.mono hr⟩) fun⟨h1,x,h2,h3⟩=>⟨h1,x,h2,hr _ _ h3⟩
theorem Does.of (hok:eO P f=true)(h:Calls P f args w R):Does P f args w R:= .inl ⟨hok,h⟩
theorem Does.calls (hok:eO P f=true)(h:Does P f args w R):Calls P f args w R:=by
 rcases h with h|h;all_goals grind
def HFn (P:Program)(f:FuncId)(args:List HV)(k:Nat)(ob:Ob)(R:HV→Ob→Prop):Prop:=
 bI3 P f=true∧ ∀(w:World) (ρ:Env) (X:Nat→Prop) (xs:List Value),RepS w ρ X ob→RepHV w ρ (Owned ρ X) args xs→(∀b,X b→b<w.heap.size)→
  Does P f xs.toArray w fun e w'=> ∃r ob' ρ' x,e= .returned x∧R r ob'∧Gave w ρ X k r ob' w' ρ' x
variable {ob:Ob}
theorem HFn.mono {args:List HV}{k:Nat}{R R':HV→Ob→Prop}(h:HFn P f args k ob R)(hr: ∀r ob',R r ob'→R' r ob'):HFn P f args k ob R':=
 ⟨h.1,fun w ρ X xs h1 h2 h3=>(h.2 w ρ X xs h1 h2 h3).mono fun _ _ ⟨r,ob',ρ',x,e1,e2,e3⟩=>⟨r,ob',ρ',x,e1,hr _ _ e2,e3⟩⟩
structure LocOk (k:Nat)(args:List HV)(ob:Ob):Prop where
 all: ∀j,j<k→ ∃o,ob j=some o
 none: ∀id o,ob id=some o→id<k∧o.men (· <k)
 args:HV.menL (· <k) args
def sub (σ:List Nat)(nid j:Nat):Nat:=if j<σ.length then σ.getD j 0 else nid+(j-σ.length)
def cH (ob:Ob)(σ:List Nat)(nid:Nat)(lob:Ob):Ob:=fun id=>
 match σ.findIdx? (· ==id)with
 |some j=>(lob j).map (HO.ren (sub σ nid))
 |none=>if nid≤id∧id<nid+4 then(lob (σ.length+(id-nid))).map (HO.ren (sub σ nid))else ob id
def HCall (P:Program)(av:List Nat)(f:FuncId)(args:List HV)(ob:Ob)(nid:Nat)(K:HV→Ob→Prop):Prop:=
 ∃(σ:List Nat) (largs:List HV) (lob:Ob) (R:HV→Ob→Prop),HFn P f largs σ.length lob R∧LocOk σ.length largs lob∧(σ.Nodup∧ ∀s∈σ,s∉av)∧args=HV.renL (sub σ nid) largs∧
  (∀j o,lob j=some o→ob (σ.getD j 0)=some (o.ren (sub σ nid)))∧ ∀r lob',R r lob'→r.men (· <σ.length+4)→K (r.ren (sub σ nid)) (cH ob σ nid lob')
def HCallL (P:Program)(av:List Nat)(f:FuncId)(args:List HV)(ob:Ob)(nid:Nat)(K:HV→Ob→Prop):Prop:=
 ∃(σ:List Nat) (largs:List HV) (lob:Ob) (R:HV→Ob→Prop),HFn P f largs σ.length lob R∧LocOk σ.length largs lob∧(σ.Nodup∧ ∀j,j<σ.length→σ.getD j 0∉av∨(σ.getD j 0+10000≤nid∧ ∀r lob',R r lob'→lob' j=lob j))∧
  args=HV.renL (sub σ nid) largs∧(∀j o,lob j=some o→ob (σ.getD j 0)=some (o.ren (sub σ nid)))∧ ∀r lob',R r lob'→r.men (· <σ.length+4)→K (r.ren (sub σ nid)) (cH ob σ nid lob')
variable {nid:Nat}
theorem HCall.L {av:List Nat}{args:List HV}{K:HV→Ob→Prop}(h:HCall P av f args ob nid K):HCallL P av f args ob nid K:=by
 obtain⟨σ,largs,lob,R,h1,h2,⟨h3,h4⟩,h5⟩:=h;exact⟨σ,largs,lob,R,h1,h2,⟨h3,fun j hj=> .inl (h4 _ (by grind))⟩,h5⟩
section
variable {P:Program}{c:Ctx}{M:Nat→Prop}{fr:Fr}{ob:Ob}{a:Act}{w:World}{ρ:Env}
theorem RepO.sub {w:World}{ρ ρ':Env}{O O':Nat→Prop}{m:Nat→Nat}{id:Nat}{o:HO}{M:Nat→Prop}(hs:Stay w O w O')(hm:Moves M (fun i=>ρ (m i)) ρ')(hmen:o.men M)(hid:ρ' id=ρ (m id))
  (h:RepO w ρ O (m id) (o.ren m)):RepO w ρ' O' id o:=by
 cases o with
 |box t v=>
  obtain⟨b,cs,h1,h2,h3⟩:=h;exact⟨b,cs,by grind,h2,RepH.stay hs hm hmen (kG.1 h3)⟩
 |row e sz l=>
  obtain⟨hd,xs,h1,h2,h3,h4⟩:=h;exact⟨hd,xs,by grind,h2.stay hs,h3,h4⟩
 |mp e sz D=>
  obtain⟨b,hf,h1,h2⟩:=h;exact⟨b,hf,by grind,h2.stay hs rfl (fun _ _ _ _ _=>rfl)⟩
 |dead=>exact hid.trans h
 |tab T=>exact⟨hid.trans h.1,lZ hs h.2⟩
 |hrow e sz l=>
  obtain⟨hd,xs,h1,h2,h3,h4⟩:=h;exact⟨hd,xs,by grind,RepHL.stay hs hm hmen (pC.1 h2),(xT m l).1 h3,by grind[nU]⟩
 |raw es clock=>
  obtain⟨b,h1,h2⟩:=h;exact⟨b,by grind,h2⟩
 |it j since seen last=>
  obtain⟨b,x,h1,h2,h3⟩:=h;refine⟨b,x,by grind,h2,fun bm hf h4=>?_⟩;obtain⟨L,e1,e2⟩:=hm j _ hmen h4;rcases e2 with rfl|⟨_,_,rfl,e3,_⟩|⟨b1,f,f',rfl,e3,_⟩
  · exact h3 _ _ e1
  · cases e3
  · cases e3;exact h3 _ _ e1
theorem RepO.unsub {w:World}{ρ ρ':Env}{O O':Nat→Prop}{m:Nat→Nat}{id:Nat}{o:HO}{M:Nat→Prop}(hs:Stay w O w O')(hm:Moves M ρ' (fun i=>ρ (m i)))(hmen:o.men M)(hid:ρ (m id)=ρ' id)
  (h:RepO w ρ' O id o):RepO w ρ O' (m id) (o.ren m):=by
 cases o with
 |box t v=>
  obtain⟨b,cs,h1,h2,h3⟩:=h;exact⟨b,cs,by grind,h2,kG.2 (RepH.stay hs hm hmen h3)⟩
 |row e sz l=>
  obtain⟨hd,xs,h1,h2,h3,h4⟩:=h;exact⟨hd,xs,by grind,h2.stay hs,h3,h4⟩
 |mp e sz D=>
  obtain⟨b,hf,h1,h2⟩:=h;exact⟨b,hf,by grind,h2.stay hs rfl (fun _ _ _ _ _=>rfl)⟩
 |dead=>exact hid.trans h
 |tab T=>exact⟨hid.trans h.1,lZ hs h.2⟩
 |hrow e sz l=>
  obtain⟨hd,xs,h1,h2,h3,h4⟩:=h;exact⟨hd,xs,by grind,pC.2 (RepHL.stay hs hm hmen h2),(xT m l).2 h3,by grind[nU]⟩
 |raw es clock=>
  obtain⟨b,h1,h2⟩:=h;exact⟨b,by grind,h2⟩
 |it j since seen last=>
  obtain⟨b,x,h1,h2,h3⟩:=h;refine⟨b,x,by grind,h2,fun bm hf h4=>?_⟩;obtain⟨L,e1,e2⟩:=hm j _ hmen h4;rcases e2 with rfl|⟨_,_,rfl,e3,_⟩|⟨b1,f,f',rfl,e3,_⟩
  · exact h3 _ _ e1
  · cases e3
  · cases e3;exact h3 _ _ e1
theorem Moves.of_eq {M:Nat→Prop}{ρ ρ':Env}(h: ∀i,M i→ρ' i=ρ i):Moves M ρ ρ':=fun i L hm hL=>⟨L,by grind,.inl rfl⟩
theorem Stay.same {w:World}{O O':Nat→Prop}(h: ∀b,b<w.heap.size→O' b→O b):Stay w O w O':=⟨fun b hb hO=>⟨rfl,fun h'=>hO (h b hb.lt h')⟩⟩
theorem dZ {σ:List Nat}(hn:σ.Nodup){j:Nat}(hj:j<σ.length):σ.findIdx? (· ==σ.getD j 0)=some j:=by
 rw[List.findIdx?_eq_some_iff_getElem];refine⟨hj,by grind,fun i hi=>?_⟩;have hi':i<σ.length:=by omega
 simp only[List.getD_eq_getElem?_getD,List.getElem?_eq_getElem hj,Option.getD_some,beq_iff_eq];grind[List.pairwise_iff_getElem]
theorem aN6 (h:RepA' c M fr ob a w ρ){nid:Nat}(hnid: ∀i,i<4→ ¬M (nid+i)){M':Nat→Prop}(hM: ∀i,M i→M' i)(hM': ∀i,i<4→M' (nid+i)){f:FuncId}{args:List HV}{K:HV→Ob→Prop}
  {ys:List Value} (hx:RepHV w ρ (Owned ρ c.X) args ys)
  {av:List Nat} (hl:HCallL P av f args ob nid K) (d:Option Nat) (hd: ∀k,d=some k→k<c.n):
  bI3 P f=true∧Does P f ys.toArray w fun e w'=> ∃y v ob' ρ',e= .returned y∧K v ob'∧RepA' c M' (updo fr d v) ob' (a.put d y) w' ρ':=by
 obtain⟨σ,largs,lob,R,⟨hok,hF⟩,hloc,⟨hnd,_⟩,hargs,hobs,hK⟩:=hl;refine⟨hok,?_⟩;have hget: ∀j,j<σ.length→ ∃o,lob j=some o∧ob (σ.getD j 0)=some (o.ren (sub σ nid)):=fun j hj=>by
  obtain⟨o,ho⟩:=hloc.all j hj;grind
 have hσM: ∀j,j<σ.length→M (σ.getD j 0):=fun j hj=>by
  obtain⟨o,_,h2⟩:=hget j hj;exact(h.mo _ _ h2).1
 let ρc:Env:=fun j=>if j<σ.length then ρ (σ.getD j 0)else none
 let X':Nat→Prop:=fun b=>c.X b∨ ∃id L,id∉σ∧ρ id=some L∧L.has b
 have hρc: ∀j,j<σ.length→ρc j=ρ (σ.getD j 0):=fun j hj=>if_pos hj;have hmem: ∀id,id∈σ→ ∃j,j<σ.length∧σ.getD j 0=id:=fun id hid=>by grind[List.mem_iff_getElem,List.getElem?_eq_getElem]
 have hin: ∀j,j<σ.length→σ.getD j 0∈σ:=fun j hj=>by grind
 have hsubj: ∀j,j<σ.length→sub σ nid j=σ.getD j 0:=fun j hj=>if_pos hj;have ownedc: ∀b,Owned ρ c.X b↔Owned ρc X' b:=by
  intro b;constructor
  ·
   rintro(hb|⟨id,L,h1,h2⟩)
   · exact .inl (.inl hb)
   ·
    by_cases hid:id∈σ
    · obtain⟨j,hj,rfl⟩:=hmem id hid;exact .inr ⟨j,L,by rw[hρc j hj];exact h1,h2⟩
    · exact .inl (.inr ⟨id,L,hid,h1,h2⟩)
  ·
   rintro((hb|⟨id,L,_,h1,h2⟩)|⟨j,L,h1,h2⟩)
   · exact .inl hb
   · exact .inr ⟨id,L,h1,h2⟩
   ·
    by_cases hj:j<σ.length
    · rw[hρc j hj]at h1;exact .inr ⟨_,L,h1,h2⟩
    · simp only[ρc,if_neg hj]at h1;cases h1
 have stc:Stay w (Owned ρ c.X) w (Owned ρc X'):=Stay.same (fun b _ hb=>(ownedc b).2 hb);have mvc:Moves (· <σ.length) (fun i=>ρ (sub σ nid i)) ρc:=Moves.of_eq (fun i hi=>by rw[hρc i hi,hsubj i hi]);have hRS:RepS w ρc X' lob:=by
  refine⟨fun j o ho=>?_,fun j hj=>?_,fun j j' L L' b h1 h2 h3 h4=>?_,fun j L b h1 h2 h3=>?_⟩
  · have hj:=(hloc.none j o ho).1;have:=h.s.objs _ _ (hobs j o ho);rw[←hsubj j hj]at this;exact RepO.sub stc mvc (hloc.none j o ho).2 (by rw[hρc j hj,hsubj j hj]) this
  ·
   by_cases hjl:j<σ.length
   · obtain⟨o,ho⟩:=hloc.all j hjl;rw[ho]at hj;cases hj
   · exact if_neg hjl
  ·
   by_cases hj:j<σ.length
   ·
    by_cases hj':j'<σ.length
    · rw[hρc j hj]at h1;rw[hρc j' hj']at h2;have:=h.s.apart _ _ L L' b h1 h2 h3 h4;have e1:=dZ hnd hj;have e2:=dZ hnd hj';rw[this]at e1;rw[e1]at e2;cases e2;rfl
    · simp only[ρc,if_neg hj']at h2;cases h2
   · simp only[ρc,if_neg hj]at h1;cases h1
  ·
   by_cases hj:j<σ.length
   ·
    rw[hρc j hj]at h1;rcases h3 with h3|⟨id,L',hid,h4,h5⟩
    · exact h.s.xb _ L b h1 h2 h3
    · have:=h.s.apart _ _ L L' b h1 h4 h2 h5;exact hid (this▸hin j hj)
   · simp only[ρc,if_neg hj]at h1;cases h1
 have hargsr:RepHV w ρc (Owned ρc X') largs ys:=by
  rw[hargs]at hx;exact RepHV.stay stc mvc hloc.args (mC.1 hx)
 have hX': ∀b,X' b→b<w.heap.size:=by
  rintro b (hb|⟨id,L,_,h1,h2⟩)
  · exact Nat.lt_of_lt_of_le (h.xlt b hb) h.base.size
  · exact Owned.lt h.s h1 h2
 refine(hF w ρc X' ys hRS hargsr hX').mono ?_;rintro e w' ⟨r,lob',ρ',x,rfl,hR,hg⟩;refine⟨x,r.ren (sub σ nid),cH ob σ nid lob',?_⟩
 let ρn:Env:=fun id=>match σ.findIdx? (· ==id)with|some j=>ρ' j|none=>if nid≤id∧id<nid+4 then ρ' (σ.length+(id-nid))else ρ id
 have hnσ: ∀i,i<4→nid+i∉σ:=fun i hi hin'=>by
  obtain⟨j,hj,e⟩:=hmem _ hin';exact hnid i hi (e▸hσM j hj)
 have idx_none: ∀id,id∉σ→σ.findIdx? (· ==id)=none:=fun id hid=>by
  rw[List.findIdx?_eq_none_iff];intro y hy;simp only[beq_eq_false_iff_ne,ne_eq];intro e;exact hid (e▸hy)
 have hρn1: ∀j,j<σ.length→ρn (σ.getD j 0)=ρ' j:=fun j hj=>by simp only[ρn,dZ hnd hj]
 have hρn2: ∀i,i<4→ρn (nid+i)=ρ' (σ.length+i):=fun i hi=>by
  simp only[ρn,idx_none _ (hnσ i hi)];rw[if_pos ⟨by omega,by omega⟩];congr 1;omega
 have hρn3: ∀id,id∉σ→ ¬(nid≤id∧id<nid+4)→ρn id=ρ id:=fun id h1 h2=>by simp only[ρn,idx_none id h1,if_neg h2]
 have hob1: ∀j,j<σ.length→cH ob σ nid lob' (σ.getD j 0)=(lob' j).map (HO.ren (sub σ nid)):=fun j hj=>by simp only[cH,dZ hnd hj]
 have hob2: ∀i,i<4→cH ob σ nid lob' (nid+i)=(lob' (σ.length+i)).map (HO.ren (sub σ nid)):=fun i hi=>by
  simp only[cH,idx_none _ (hnσ i hi)];rw[if_pos ⟨by omega,by omega⟩];congr 2;omega
 have hob3: ∀id,id∉σ→ ¬(nid≤id∧id<nid+4)→cH ob σ nid lob' id=ob id:=fun id h1 h2=>by simp only[cH,idx_none id h1,if_neg h2]
 have split: ∀id,(∃j,j<σ.length∧σ.getD j 0=id)∨(∃i,i<4∧id=nid+i)∨(id∉σ∧ ¬(nid≤id∧id<nid+4)):=fun id=>by
  by_cases h1:id∈σ
  · exact .inl (hmem id h1)
  ·
   by_cases h2:nid≤id∧id<nid+4
   · exact .inr (.inl ⟨id-nid,by omega,by omega⟩)
   · exact .inr (.inr ⟨h1,h2⟩)
 have hsub2: ∀j,ρn (sub σ nid j)=ρ' j∨ ¬j<σ.length+4:=fun j=>by
  by_cases hj:j<σ.length
  · exact .inl (by rw[hsubj j hj];exact hρn1 j hj)
  ·
   by_cases hj4:j<σ.length+4
   · refine .inl ?_;have:sub σ nid j=nid+(j-σ.length):=if_neg hj;rw[this,hρn2 _ (by omega)];congr 1;omega
   · exact .inr hj4
 have own': ∀b,Own ρn b↔(Own ρ' b∨ ∃id L,id∉σ∧ρ id=some L∧L.has b):=by
  intro b;constructor
  ·
   rintro⟨id,L,h1,h2⟩;rcases split id with⟨j,hj,rfl⟩|⟨i,hi,rfl⟩|⟨h3,h4⟩
   · rw[hρn1 j hj]at h1;exact .inl ⟨j,L,h1,h2⟩
   · rw[hρn2 i hi]at h1;exact .inl ⟨_,L,h1,h2⟩
   · rw[hρn3 id h3 h4]at h1;exact .inr ⟨id,L,h3,h1,h2⟩
  ·
   rintro(⟨j,L,h1,h2⟩|⟨id,L,h3,h1,h2⟩)
   ·
    have hj4:j<σ.length+4:=by
     cases ho:lob' j with
     |none=>rw[hg.s.none j ho]at h1;cases h1
     |some o=>exact(hg.mo j o ho).1
    rcases hsub2 j with e|e
    · exact⟨_,L,by rw[e];exact h1,h2⟩
    · exact absurd hj4 e
   ·
    by_cases h4:nid≤id∧id<nid+4
    · exfalso;have:=(h.nid_none (hnid (id-nid) (by omega))).2;rw[show nid+(id-nid)=id from by omega]at this;rw[this]at h1;cases h1
    · exact⟨id,L,by rw[hρn3 id h3 h4];exact h1,h2⟩
 have ownedn: ∀b,Owned ρn c.X b→Owned ρ' X' b:=by
  rintro b (hb|hb)
  · exact .inl (.inl hb)
  ·
   rcases(own' b).1 hb with hb|hb
   · exact .inr hb
   · exact .inl (.inr hb)
 have stn:Stay w' (Owned ρ' X') w' (Owned ρn c.X):=Stay.same (fun b _ hb=>ownedn b hb);have ownc_of: ∀b,Own ρc b→Own ρ b:=by
  rintro b ⟨j,L,h1,h2⟩;by_cases hj:j<σ.length
  · rw[hρc j hj]at h1;exact⟨_,L,h1,h2⟩
  · simp only[ρc,if_neg hj]at h1;cases h1
 have hs2:Stay2 w (Own ρ) w' (Own ρn):=by
  refine⟨fun b hb hO=>hg.stay.block b hb (fun h1=>hO (ownc_of b h1)),fun b hb=>?_,hg.stay.size,hg.stay.os,hg.stay.tape,hg.stay.output⟩;rcases(own' b).1 hb with hb|⟨id,L,_,h1,h2⟩
  · exact(hg.stay.own b hb).imp (ownc_of b) id
  · exact .inl ⟨id,L,h1,h2⟩
 have hmv:Moves M ρ ρn:=by
  intro id L' hm hL;rcases split id with⟨j,hj,rfl⟩|⟨i,hi,rfl⟩|⟨h3,h4⟩
  · rw[hρn1 j hj]at hL;obtain⟨L,h1,h2⟩:=hg.moves j L' hj hL;rw[hρc j hj]at h1;exact⟨L,h1,h2⟩
  · exact absurd hm (hnid i hi)
  · rw[hρn3 id h3 h4]at hL;exact⟨L',hL,.inl rfl⟩
 have mvn:Moves (· <σ.length+4) ρ' (fun i=>ρn (sub σ nid i)):=Moves.of_eq (fun i hi=>(hsub2 i).resolve_right (fun e=>e hi));have hM4: ∀i,i<σ.length+4→M' (sub σ nid i):=fun i hi=>by
  by_cases hj:i<σ.length
  · rw[hsubj i hj];exact hM _ (hσM i hj)
  · have:sub σ nid i=nid+(i-σ.length):=if_neg hj;rw[this];exact hM' _ (by omega)
 have hmr:(r.ren (sub σ nid)).men M':=men_ren.2 (HV.men_mono hM4 hg.mr);refine⟨ρn,rfl,hK r lob' hR hg.mr,h.step hM hs2 hmv ⟨fun id o ho=>?_,fun id hid=>?_,?_,?_⟩ (.inr ⟨?_,?_⟩) hmr (fun id o ho=>?_) hd⟩
 ·
  rcases split id with⟨j,hj,rfl⟩|⟨i,hi,rfl⟩|⟨h3,h4⟩
  ·
   rw[hob1 j hj,Option.map_eq_some_iff]at ho;obtain⟨o',ho',rfl⟩:=ho;have:=RepO.unsub stn mvn (hg.mo j o' ho').2 ((hsub2 j).resolve_right (fun e=>e (by omega))) (hg.s.objs j o' ho')
   rwa [hsubj j hj]at this
  ·
   rw[hob2 i hi,Option.map_eq_some_iff]at ho;obtain⟨o',ho',rfl⟩:=ho;have:=RepO.unsub stn mvn (hg.mo _ o' ho').2 ((hsub2 _).resolve_right (fun e=>e (by omega))) (hg.s.objs _ o' ho');have e:sub σ nid (σ.length+i)=nid+i:=by
    have: ¬σ.length+i<σ.length:=by omega
    rw[Hl.sub,if_neg this];omega
   rwa [e]at this
  ·
   rw[hob3 id h3 h4]at ho;refine RepO.stay (hs2.stay c.X) hmv (h.mo id o ho).2 (hρn3 id h3 h4) (fun L b h1 h2=>?_) (h.s.objs id o ho);refine hg.stay.block b (Owned.lt h.s h1 h2) ?_;rintro⟨j,L',h5,h6⟩;by_cases hj:j<σ.length
   · rw[hρc j hj]at h5;have:=h.s.apart _ _ L L' b h1 h5 h2 h6;exact h3 (this▸hin j hj)
   · simp only[ρc,if_neg hj]at h5;cases h5
 ·
  rcases split id with⟨j,hj,rfl⟩|⟨i,hi,rfl⟩|⟨h3,h4⟩
  · rw[hob1 j hj,Option.map_eq_none_iff]at hid;rw[hρn1 j hj];exact hg.s.none j hid
  · rw[hob2 i hi,Option.map_eq_none_iff]at hid;rw[hρn2 i hi];exact hg.s.none _ hid
  · rw[hob3 id h3 h4]at hid;rw[hρn3 id h3 h4];exact h.s.none id hid
 ·
  have other: ∀j L b id L2,ρ' j=some L→L.has b→id∉σ→ρ id=some L2→L2.has b→False:=fun j L b id L2 h1 h2 h3 h4 h5=>
   hg.s.xb j L b h1 h2 (.inr ⟨id,L2,h3,h4,h5⟩)
  have norm: ∀id L,ρn id=some L→(∃j,j<σ.length+4∧id=sub σ nid j∧ρ' j=some L)∨(id∉σ∧ρ id=some L):=fun id L hL=>by
   rcases split id with⟨j,hj,rfl⟩|⟨i,hi,rfl⟩|⟨h3,h4⟩
   · rw[hρn1 j hj]at hL;exact .inl ⟨j,by omega,(hsubj j hj).symm,hL⟩
   ·
    rw[hρn2 i hi]at hL;refine .inl ⟨σ.length+i,by omega,?_,hL⟩;have: ¬σ.length+i<σ.length:=by omega
    rw[Hl.sub,if_neg this];omega
   · rw[hρn3 id h3 h4]at hL;exact .inr ⟨h3,hL⟩
  intro id id' L L' b h1 h2 h3 h4;rcases norm id L h1 with⟨j,hj,rfl,e1⟩|⟨hn1,e1⟩<;>rcases norm id' L' h2 with⟨j',hj',rfl,e2⟩|⟨hn2,e2⟩
  · rw[hg.s.apart j j' L L' b e1 e2 h3 h4]
  · exact(other j L b id' L' e1 h3 hn2 e2 h4).elim
  · exact(other j' L' b id L e2 h4 hn1 e1 h3).elim
  · exact h.s.apart id id' L L' b e1 e2 h3 h4
 ·
  intro id L b h1 h2 hX;rcases split id with⟨j,hj,rfl⟩|⟨i,hi,rfl⟩|⟨h3,h4⟩
  · rw[hρn1 j hj]at h1;exact hg.s.xb j L b h1 h2 (.inl hX)
  · rw[hρn2 i hi]at h1;exact hg.s.xb _ L b h1 h2 (.inl hX)
  · rw[hρn3 id h3 h4]at h1;exact h.s.xb id L b h1 h2 hX
 · exact kG.2 (RepH.stay stn mvn hg.mr hg.v.1)
 · rw[HV.ren_isAgg];exact hg.v.2
 ·
  rcases split id with⟨j,hj,rfl⟩|⟨i,hi,rfl⟩|⟨h3,h4⟩
  · rw[hob1 j hj,Option.map_eq_some_iff]at ho;obtain⟨o',ho',rfl⟩:=ho;exact⟨hM _ (hσM j hj),HO.men_ren.2 (HO.men_mono hM4 (hg.mo j o' ho').2)⟩
  · rw[hob2 i hi,Option.map_eq_some_iff]at ho;obtain⟨o',ho',rfl⟩:=ho;exact⟨hM' i hi,HO.men_ren.2 (HO.men_mono hM4 (hg.mo _ o' ho').2)⟩
  · rw[hob3 id h3 h4]at ho;exact⟨hM _ (h.mo id o ho).1,HO.men_mono hM (h.mo id o ho).2⟩
end
def HV.ids :HV→List Nat
 | .own id _| .ptr id _| .eptr id _ _ _ _| .osl id _ _ _ _| .mapr id| .mrow id _ _=>[id]
 |_=>[]
def touch (o:Op)(e:Operand→HV):List Nat:=
 match o with
 | .load _ x| .fieldAddr _ x _| .nilCheck x=>(e x).ids
 | .indexAddr _ x _=>(e x).ids
 | .slice _ x _ _ _=>(e x).ids
 | .lookup _ x _ _| .mapUpdate _ x _ _=>(e x).ids
 | .store _ x _=>(e x).ids
 | .call c=>match c.callee with
  | .builtin _=>c.args.toList.flatMap fun x=>(e x).ids
  |_=>[]
 |_=>[]
def isEff :Op→Bool
 | .store _ _ _| .mapUpdate _ _ _ _=>true
 | .call c=>match c.callee with
  | .builtin .len| .builtin .max| .builtin .min=>false
  |_=>true
 |_=>false
def cC :Op→Bool
 | .store _ _ _| .alloc _| .box _ _| .buildSlice _ _ _| .mapUpdate _ _ _ _| .makeMap _ _| .makeSlice _ _ _=>false
 | .call c=>match c.callee with
  | .builtin .len| .builtin .max| .builtin .min=>true
  |_=>false
 |_=>true
def app (u:Option (Nat×HO))(ob:Ob):Ob:=match u with|some p=>upd ob p.1 (some p.2)|none=>ob
variable {K:HV→Prop}{ob':Ob}{a:HV}
theorem aN7 {ti:TyI}(hag: ∀id∈a.ids,ob' id=ob id)(h:hload ti a ob K):hload ti a ob' K:=by
 cases a with
 |ptr id off=>
  grind[HV.ids,hload]
 |eptr id n i sz off=>
  grind[HV.ids,hload]
 |c v=>cases v<;>simp only[hload]at h⊢ <;>exact h
 |_=>simp only[hload]at h
variable {t:TypeId}
theorem uC {f:Nat}(hag: ∀id∈a.ids,ob' id=ob id)(h:hfieldAddr P t a f ob K):hfieldAddr P t a f ob' K:=by
 unfold hfieldAddr hfield at h⊢;cases ht:aP P t with
 |none=>simp_all
 |some ti=>
  rw[ht]at h;simp only[hlift_some]at h⊢;split at h
  ·
   rename_i fs hfs;cases hf:fs[f]? with
   |none=>simp_all
   |some p=>
    rw[hf]at h;simp only[hlift_some]at h⊢;cases htf:aP P p.2 with
    |none=>simp_all
    |some tf=>
     grind[hlift_some,id,HV.ids]
  grind
theorem uD {i:HV}(hag: ∀id∈a.ids,ob' id=ob id)(h:hindexAddr P t a i ob K):hindexAddr P t a i ob' K:=by
 unfold hindexAddr at h⊢;cases ht:aP P t with
 |none=>simp_all
 |some ti=>
  rw[ht]at h;simp only[hlift_some]at h⊢;split at h
  ·
   rename_i e k n hd;cases hte:aP P e with
   |none=>simp_all
   |some te=>
    grind[hlift_some,id,HV.ids]
  ·
   rename_i m e k n hd;cases hte:aP P e with
   |none=>simp_all
   |some te=>
    grind[hlift_some,id,HV.ids]
  grind
theorem fI (hag: ∀id∈a.ids,ob' id=ob id):hread a ob'=hread a ob:=by
 cases a with
 |own id m=>grind[hread,HV.ids]
 |osl id m lo sz hi=>grind[hread,HV.ids]
 |c v=>cases v<;>rfl
 |_=>rfl
theorem aW3 (hag: ∀id∈a.ids,ob' id=ob id)(h:live a ob):live a ob':=by
 cases a with
 |ptr id o=>grind[live,HV.ids]
 |eptr id n i sz o=>grind[live,HV.ids]
 |c v=>cases v<;>exact h
 |_=>exact h
theorem aC3 {o:Op}{e:Operand→HV}{K:HV→Ob→Prop}(h:hop P nid o e ob K):
  ∃v u,K v (app u ob)∧(∀ob':Ob,(∀id∈touch o e,ob' id=ob id)→ ∀K':HV→Ob→Prop,K' v (app u ob')→hop P nid o e ob' K')∧(∀p,u=some p→p.1=nid∨(isEff o=true∧p.1∈touch o e))∧(cC o=true→u=none):=by
 unfold hop at h;split at h
 · exact⟨_,none,h.2,fun ob' _ K' hK=>⟨h.1,hK⟩,by simp,fun _=>rfl⟩
 · exact⟨_,none,h.2,fun ob' _ K' hK=>⟨h.1,hK⟩,by simp,fun _=>rfl⟩
 ·
  unfold hpick at h;split at h
  · rename_i t hc;exact⟨_,none,h.2,fun ob' _ K' hK=>(by simp only[hop,hpick,hc];exact⟨h.1,hK⟩),by simp,fun _=>rfl⟩
  grind
 · rw[aC]at h;obtain⟨ti,ht,hK⟩:=h;exact⟨_,some (nid,_),hK,fun ob' _ K' hK=>(by simp only[hop,ht,hlift_some];exact hK),by simp,by grind[cC]⟩
 · exact⟨_,some (nid,_),h.2,fun ob' _ K' hK=>(by simp only[hop];exact⟨h.1,hK⟩),by simp,by grind[cC]⟩
 ·
  rw[aC]at h;obtain⟨ti,ht,h⟩:=h;unfold gP at h;split at h
  · rename_i zs hz;rw[aC]at h;obtain⟨hs,hf,hK⟩:=h;exact⟨_,none,hK,fun ob' _ K' hK=>(by simp only[hop,ht,hlift_some,gP,hz,hf];exact hK),by simp,fun _=>rfl⟩
  grind
 ·
  rw[aC]at h;obtain⟨ti,ht,h⟩:=h;split at h
  · rename_i el hel;rw[aC]at h;obtain⟨te,hte,h⟩:=h;rw[aC]at h;obtain⟨l,hcl,h1,hK⟩:=h;exact⟨_,some (nid,_),hK,fun ob' _ K' hK=>(by simp only[hop,ht,hlift_some,hel,hte,hcl];exact⟨h1,hK⟩),by simp,by grind[cC]⟩
  grind
 ·
  rename_i t x;rw[aC]at h;obtain⟨ti,ht,h⟩:=h;have key: ∀K:HV→Prop,hload ti (e x) ob K→ ∃v,K v∧ ∀K':HV→Prop,K' v→hload ti (e x) ob K':=by
   intro K h;unfold hload at h;split at h
   · grind[aC,hload,hlift_some]
   · grind[id,aC,hload,hlift_some]
   · grind[id,aC,hload,hlift_some]
   · grind
  obtain⟨v,hK,hv⟩:=key _ h;exact⟨v,none,hK,fun ob' hag K' hK'=>(by simp only[hop,ht,hlift_some];exact aN7 hag (hv _ hK')),by simp,fun _=>rfl⟩
 ·
  rename_i t x y;rw[aC]at h;obtain⟨ti,ht,h⟩:=h;unfold hstore at h;split at h
  ·
   rename_i id off hx;split at h
   ·
    rename_i T u ho;obtain⟨h1,h⟩:=h;rw[aC]at h;obtain⟨u',hu,hK⟩:=h;refine⟨_,some (id,_),hK,fun ob' hag K' hK'=>?_,fun p hp=>?_,by simp[cC]⟩
    · have:=hag id (by simp[touch,hx,HV.ids]);simp only[hop,ht,hlift_some,hstore,hx,this,ho,hu];exact⟨h1,hK'⟩
    · cases hp;exact .inr ⟨rfl,by simp[touch,hx,HV.ids]⟩
   grind
  ·
   rename_i id n i sz off hx;split at h
   ·
    rename_i T sz' l ho;obtain⟨h1,h⟩:=h;rw[aC]at h;obtain⟨u',hu,h⟩:=h;rw[aC]at h;obtain⟨cu,hcu,hK⟩:=h;refine⟨_,some (id,_),hK,fun ob' hag K' hK'=>?_,fun p hp=>?_,by simp[cC]⟩
    · have:=hag id (by simp[touch,hx,HV.ids]);simp only[hop,ht,hlift_some,hstore,hx,this,ho,hu,hcu];exact⟨h1,hK'⟩
    · cases hp;exact .inr ⟨rfl,by simp[touch,hx,HV.ids]⟩
   grind
  grind
 · exact⟨_,none,h.2,fun ob' hag K' hK=>⟨aW3 hag h.1,hK⟩,by simp,fun _=>rfl⟩
 ·
  rename_i op t x y yt;have key: ∀K:CV→Prop,jB P op t (e x) (e y) K→ ∃u,K u∧ ∀K':CV→Prop,K' u→jB P op t (e x) (e y) K':=by
   intro K h;unfold jB at h;split at h
   ·
    rename_i k1 i1 k2 i2 hx hy;by_cases hs:isShift op=true
    · rw[if_pos hs]at h;cases op<;>simp[isShift]at hs<;>simp only[hshift]at h;all_goals exact⟨_,h.2,fun K' hK'=>by simp only[jB,hx,hy,isShift,if_true,hshift];exact⟨h.1,hK'⟩⟩
    · rw[if_neg hs]at h;cases op<;>simp[isShift]at hs<;>simp only[hint]at h;all_goals grind[jB,isShift,hint]
   · rename_i s1 s2 hx hy;cases op<;>simp only[hstr]at h;all_goals grind[jB,hstr]
   · grind[aC,jB,hlift_some]
   · grind[jB]
   · grind
  obtain⟨u,hK,hu⟩:=key _ h;exact⟨.c u,none,hK,fun ob' _ K' hK'=>(by simp only[hop];exact hu _ hK'),by simp,fun _=>rfl⟩
 ·
  rename_i op t x;unfold hun at h;split at h
  · rename_i b hx;exact⟨_,none,h,fun ob' _ K' hK'=>(by simp only[hop,hun,hx];exact hK'),by simp,fun _=>rfl⟩
  · rename_i k n hx;exact⟨_,none,h,fun ob' _ K' hK'=>(by simp only[hop,hun,hx];exact hK'),by simp,fun _=>rfl⟩
  · rename_i k n hx;exact⟨_,none,h,fun ob' _ K' hK'=>(by simp only[hop,hun,hx];exact hK'),by simp,fun _=>rfl⟩
  all_goals grind
 ·
  rename_i sr ds x;unfold hconv at h;rw[aC]at h;obtain⟨ts,hts,h⟩:=h;rw[aC]at h;obtain⟨td,htd,h⟩:=h;split at h
  · rename_i k k' n hd1 hx;exact⟨_,none,h,fun ob' _ K' hK'=>(by simp only[hop,hconv,hts,htd,hlift_some,hd1,hx];exact hK'),by simp,fun _=>rfl⟩
  · rename_i s hd1 hx;exact⟨_,none,h,fun ob' _ K' hK'=>(by simp only[hop,hconv,hts,htd,hlift_some,hd1,hx];exact hK'),by simp,fun _=>rfl⟩
  · rename_i el l hd1 hd2 hx;rw[aC]at h;obtain⟨te,hte,h8,h⟩:=h;rw[aC]at h;obtain⟨bs,hbs,h⟩:=h;exact⟨_,none,h,fun ob' _ K' hK'=>(by simp only[hop,hconv,hts,htd,hlift_some,hd1,hd2,hx,hte,hbs];exact⟨h8,hK'⟩),by simp,fun _=>rfl⟩
  grind
 ·
  rename_i f first caps
  obtain⟨hf,h⟩:=h;unfold hclo at h;split at h
  · rename_i hc;exact⟨_,none,h,fun ob' _ K' hK'=>(by simp only[hop,hclo,hc];exact⟨hf,hK'⟩),by simp,fun _=>rfl⟩
  ·
   rename_i hne;refine⟨_,none,h.2,fun ob' _ K' hK'=>?_,by simp,fun _=>rfl⟩;simp only[hop];refine⟨hf,?_⟩;unfold hclo;split
   · grind
   · exact⟨h.1,hK'⟩
 ·
  rename_i t x lo hi;by_cases hown: ∃id n,e x= .own id n
  ·
   obtain⟨id,n,hx⟩:=hown;simp only[hslice2,hx]at h;rw[aC]at h;obtain⟨ti,ht,h⟩:=h;split at h
   · rename_i el e' sz l hd1 ho;rw[aC]at h;obtain⟨te,hte,h1,h⟩:=h;rw[aC]at h;obtain⟨u1,hu1,h⟩:=h;rw[aC]at h;obtain⟨u2,hu2,h2,hK⟩:=h;refine⟨_,none,hK,fun ob' hag K' hK'=>?_,by simp,fun _=>rfl⟩;have hoid:ob' id=ob id:=hag id (by simp[touch,hx,HV.ids]);simp only[hop,hslice2,hx,ht,hlift_some,hd1,hoid,ho,hte];refine⟨h1,?_⟩;rw[hu1];simp only[hlift_some];rw[hu2];exact⟨h2,hK'⟩
   grind
  by_cases hptr: ∃id off,e x= .ptr id off
  ·
   obtain⟨id,off,hx⟩:=hptr;simp only[hslice2,hx]at h;rw[aC]at h;obtain⟨ti,ht,h⟩:=h;split at h
   · rename_i m el T v hd1 ho;rw[aC]at h;obtain⟨te,hte,h1,h⟩:=h;rw[aC]at h;obtain⟨u1,hu1,h⟩:=h;rw[aC]at h;obtain⟨u2,hu2,h2,hK⟩:=h;refine⟨_,none,hK,fun ob' hag K' hK'=>?_,by simp,fun _=>rfl⟩;have hoid:ob' id=ob id:=hag id (by simp[touch,hx,HV.ids]);simp only[hop,hslice2,hx,ht,hlift_some,hd1,hoid,ho,hte];refine⟨h1,?_⟩;rw[hu1];simp only[hlift_some];rw[hu2];exact⟨h2,hK'⟩
   grind
  have e2: ∀(ob':Ob) (K':HV→Prop),hslice2 P t (e x) (lo.map e) (hi.map e) ob' K'=hslice P t (e x) (lo.map e) (hi.map e) K':=fun ob' K'=>by simp_all[hslice2,id,absurd]
  rw[e2]at h;have key: ∀K:HV→Prop,hslice P t (e x) (lo.map e) (hi.map e) K→ ∃u,K u∧ ∀K':HV→Prop,K' u→hslice P t (e x) (lo.map e) (hi.map e) K':=by
   intro K h;unfold hslice at h;rw[aC]at h;obtain⟨ti,ht,h⟩:=h;simp only at h;split at h
   · rename_i s hd1 hx;rw[aC]at h;obtain⟨l,hl,h⟩:=h;rw[aC]at h;obtain⟨hh,hhh,hb,hK⟩:=h;exact⟨_,hK,fun K' hK'=>by simp_all[hslice,hlift_some]⟩
   · rename_i el s hd1 hx;rw[aC]at h;obtain⟨te,hte,hc,h⟩:=h;rw[aC]at h;obtain⟨l,hl,h⟩:=h;rw[aC]at h;obtain⟨hh,hhh,hb,hK⟩:=h;exact⟨_,hK,fun K' hK'=>by simp_all[hslice,hlift_some]⟩
   · rename_i el hd1 hx;rw[aC]at h;obtain⟨te,hte,h⟩:=h;rw[aC]at h;obtain⟨l,hl,h⟩:=h;rw[aC]at h;grind[hslice,hlift_some]
   · rename_i m el s hd1 hx;rw[aC]at h;obtain⟨te,hte,hc,h⟩:=h;rw[aC]at h;obtain⟨l,hl,h⟩:=h;rw[aC]at h;obtain⟨hh,hhh,hb,hK⟩:=h;exact⟨_,hK,fun K' hK'=>by simp_all[hslice,hlift_some]⟩
   · grind
  obtain⟨u,hK,hu⟩:=key _ h;exact⟨u,none,hK,fun ob' _ K' hK'=>(by simp only[hop,e2];exact hu _ hK'),by simp,fun _=>rfl⟩
 ·
  rename_i t x lo hi mx;have key: ∀K:HV→Prop,hslice3 P t (e x) (lo.map e) (e hi) (e mx) K→ ∃u,K u∧ ∀K':HV→Prop,K' u→hslice3 P t (e x) (lo.map e) (e hi) (e mx) K':=by
   intro K h;unfold hslice3 at h;rw[aC]at h;obtain⟨ti,ht,h⟩:=h;split at h
   · rename_i el s kh hh km m hd1 hx hhi hmx;rw[aC]at h;obtain⟨te,hte,hc,h⟩:=h;rw[aC]at h;grind[hslice3,hlift_some]
   · grind
  obtain⟨u,hK,hu⟩:=key _ h;exact⟨u,none,hK,fun ob' _ K' hK'=>(by simp only[hop];exact hu _ hK'),by simp,fun _=>rfl⟩
 ·
  rename_i t;unfold hmakeMap at h;rw[aC]at h;obtain⟨ti,ht,h⟩:=h;split at h
  ·
   rename_i kt et hd1;rw[aC]at h;obtain⟨te,hte,h⟩:=h;split at h
   · rename_i el hd2;rw[aC]at h;obtain⟨t2,ht2,hK⟩:=h;exact⟨_,some (nid,_),hK,fun ob' _ K' hK'=>(by simp only[hop,hmakeMap,ht,hlift_some,hd1,hte,hd2,ht2];exact hK'),by simp,by simp[cC]⟩
   · rename_i hd2;refine⟨_,some (nid,_),h,fun ob' _ K' hK'=>?_,by simp,by simp[cC]⟩;simp only[hop,hmakeMap,ht,hlift_some,hd1,hte];exact hK'
  grind
 ·
  rename_i t m k;unfold hlookup at h;rw[aC]at h;obtain⟨ti,ht,h⟩:=h;split at h
  ·
   rename_i kt et hd1;rw[aC]at h;obtain⟨tk,htk,h⟩:=h;rw[aC]at h;obtain⟨te,hte,h⟩:=h;split at h
   ·
    rename_i id s hkd hm hk;obtain⟨hs,h⟩:=h;split at h
    ·
     rename_i e' sz D ho;have go: ∀ob':Ob,ob' id=ob id→ ∀K':HV→Prop,hlookup P t (e m) (e k) ob' K'=(s.length≤maxLen∧match te.d,te.z with
       | .slice _,.nils=>xO (dH D s)=true∧K' (.mrow id s (fU (dH D s)).length)
       |_,_=>qK (dH D s)=true∧K' (.c (bC6 te.z (dH D s)))):=fun ob' hob K'=>by grind[hlookup,hlift_some]
     split at h
     · rename_i hde hdz;refine⟨_,none,h.2,fun ob' hag K' hK'=>?_,by simp,fun _=>rfl⟩;simp only[hop];rw[go ob' (hag id (by simp[touch,hm,HV.ids])),hde,hdz];exact⟨hs,h.1,hK'⟩
     ·
      rename_i hno;refine⟨_,none,h.2,fun ob' hag K' hK'=>?_,by simp,fun _=>rfl⟩;simp only[hop];rw[go ob' (hag id (by simp[touch,hm,HV.ids]))];refine⟨hs,?_⟩;split
      · rename_i el hde hdz;exact absurd hdz (hno el hde)
      · exact⟨h.1,hK'⟩
    grind
   grind
  grind
 ·
  rename_i t m k v;unfold hmapUpdate at h;rw[aC]at h;obtain⟨ti,ht,h⟩:=h;split at h
  ·
   rename_i kt et hd1;rw[aC]at h;obtain⟨tk,htk,h⟩:=h;rw[aC]at h;obtain⟨te,hte,h⟩:=h;split at h
   ·
    rename_i id s hkd hm hk;obtain⟨hs,h⟩:=h;split at h
    ·
     rename_i e' sz D ho;split at h
     ·
      rename_i el id2 s2 n hde hv;refine⟨_,some (id,_),h.2,fun ob' hag K' hK'=>?_,fun p hp=>?_,by simp[cC]⟩
      · have hoid:=hag id (by simp[touch,hm,HV.ids]);simp only[hop,hmapUpdate,ht,hlift_some,hd1,htk,hte,hkd,hm,hk,hoid,ho,hde,hv];exact⟨hs,h.1,hK'⟩
      · cases hp;exact .inr ⟨rfl,by simp[touch,hm,HV.ids]⟩
     ·
      rename_i cv _ _ hv;refine⟨_,some (id,_),h.2,fun ob' hag K' hK'=>?_,fun p hp=>?_,by simp[cC]⟩
      · have hoid:=hag id (by simp[touch,hm,HV.ids]);simp only[hop,hmapUpdate,ht,hlift_some,hd1,htk,hte,hkd,hm,hk,hoid,ho,hv];exact⟨hs,h.1,hK'⟩
      · cases hp;exact .inr ⟨rfl,by simp[touch,hm,HV.ids]⟩
     · exact h.elim
    grind
   grind
  grind
 ·
  rename_i t x f;have key: ∀K:HV→Prop,hfieldAddr P t (e x) f ob K→ ∃u,K u∧ ∀K':HV→Prop,K' u→hfieldAddr P t (e x) f ob K':=by
   intro K h;unfold hfieldAddr hfield at h;rw[aC]at h;obtain⟨ti,ht,h⟩:=h;split at h
   ·
    rename_i fs hfs;rw[aC]at h;obtain⟨p,hp,h⟩:=h;rw[aC]at h;obtain⟨tf,htf,h⟩:=h;split at h
    · rename_i v hx;rw[aC]at h;obtain⟨u,hu,hK⟩:=h;exact⟨_,hK,fun K' hK'=>by grind[hfieldAddr,hfield,hlift_some]⟩
    all_goals grind[id,hfieldAddr,hfield,hlift_some]
   · grind
  obtain⟨u,hK,hu⟩:=key _ h;exact⟨u,none,hK,fun ob' hag K' hK'=>(by simp only[hop];exact uC hag (hu _ hK')),by simp,fun _=>rfl⟩
 ·
  rename_i t x f;obtain⟨h1,h⟩:=h;have key: ∀G:Nat→TyI→Prop,hfield P t f G→ ∃off tf,G off tf∧ ∀G':Nat→TyI→Prop,G' off tf→hfield P t f G':=by
   intro G h;unfold hfield at h;rw[aC]at h;obtain⟨ti,ht,h⟩:=h;split at h
   · grind[aC,hfield,hlift_some]
   · grind
  obtain⟨off,tf,hG,hG'⟩:=key _ h;rw[aC]at hG;obtain⟨v,hv,hK⟩:=hG;exact⟨v,none,hK,fun ob' _ K' hK'=>(by simp only[hop];exact⟨h1,hG' _ (by rw[hv];exact hK')⟩),by simp,fun _=>rfl⟩
 ·
  rename_i t x i;have key: ∀K:HV→Prop,hindexAddr P t (e x) (e i) ob K→ ∃u,K u∧ ∀K':HV→Prop,K' u→hindexAddr P t (e x) (e i) ob K':=by
   intro K h;unfold hindexAddr at h;rw[aC]at h;obtain⟨ti,ht,h⟩:=h;split at h
   ·
    rename_i el k n hd1 hi;rw[aC]at h;obtain⟨te,hte,h⟩:=h;split at h
    · grind[hindexAddr,hlift_some]
    · grind[id,hindexAddr,hlift_some]
    · rename_i id m lo sz hi' hx;split at h;all_goals grind[hindexAddr,hlift_some]
    grind
   ·
    rename_i m el k n hd1 hi;rw[aC]at h;obtain⟨te,hte,h0,h⟩:=h;split at h
    · grind[id,hindexAddr,hlift_some]
    all_goals grind[id,hindexAddr,hlift_some,aC]
   · grind
  obtain⟨u,hK,hu⟩:=key _ h;exact⟨u,none,hK,fun ob' hag K' hK'=>(by simp only[hop];exact uD hag (hu _ hK')),by simp,fun _=>rfl⟩
 ·
  rename_i t x i;unfold hindex at h;rw[aC]at h;obtain⟨ti,ht,h⟩:=h;split at h
  · rename_i s k n hd1 hx hi;exact⟨_,none,h.2,fun ob' _ K' hK'=>(by simp only[hop,hindex,ht,hlift_some,hd1,hx,hi];exact⟨h.1,hK'⟩),by simp,fun _=>rfl⟩
  · rename_i m el k n hd1 hi;rw[aC]at h;obtain⟨te,hte,h1,h⟩:=h;rw[aC]at h;obtain⟨u,hu,hK⟩:=h;exact⟨_,none,hK,fun ob' _ K' hK'=>(by simp only[hop,hindex,ht,hlift_some,hd1,hi,hte,hu];exact⟨h1,hK'⟩),by simp,fun _=>rfl⟩
  grind
 ·
  rename_i x i;unfold hext at h;split at h
  · rename_i l hx;rw[aC]at h;obtain⟨v,hv,hj,hK⟩:=h;exact⟨_,none,hK,fun ob' _ K' hK'=>(by simp only[hop,hext,hx,hv,hlift_some];exact⟨hj,hK'⟩),by simp,fun _=>rfl⟩
  grind
 ·
  rename_i cl;split at h
  ·
   rename_i x t hcal hargs hat;rw[aC]at h;obtain⟨ti,ht,h⟩:=h;split at h
   · rename_i hd1;rw[aC]at h;obtain⟨n,hn,hK⟩:=h;exact⟨_,none,hK,fun ob' _ K' hK'=>(by simp only[hop,hcal,hargs,hat,ht,hlift_some,hd1];rw[hn];exact hK'),by simp,fun _=>rfl⟩
   · rename_i el hd1;rw[aC]at h;obtain⟨l,hl,hK⟩:=h;refine⟨_,none,hK,fun ob' hag K' hK'=>?_,by simp,fun _=>rfl⟩;simp only[hop,hcal,hargs,hat,ht,hlift_some,hd1];rw[fI (fun id hid=>hag id (by grind[touch])),hl];exact hK'
   · rename_i n el hd1;exact⟨_,none,h,fun ob' _ K' hK'=>(by simp only[hop,hcal,hargs,hat,ht,hlift_some,hd1];exact hK'),by simp,fun _=>rfl⟩
   grind
  ·
   rename_i s x t t' hcal hargs hat;by_cases htt:t'=t
   case neg=>
    rw[if_neg htt]at h;have htouch:touch (.call cl) e=(e s).ids++(e x).ids:=by simp only[touch,hcal,hargs,List.flatMap_cons,List.flatMap_nil,List.append_nil]
    unfold happends at h;rw[aC]at h;obtain⟨ti,ht,h⟩:=h;rw[aC]at h;obtain⟨tu,htu,h⟩:=h;split at h
    ·
     rename_i el bs hd1 hd2 hx;rw[aC]at h;obtain⟨te,hte,hc2,h⟩:=h;split at h
     ·
      rename_i id n hs;split at h
      ·
       rename_i e' sz l ho;refine⟨_,some (id,_),h.2.2.2,fun ob' hag K' hK'=>?_,fun p hp=>?_,by simp[cC,hcal]⟩
       · have hoid:=hag id (by rw[htouch,hs];simp[HV.ids]);simp only[hop,hcal,hargs,hat];rw[if_neg htt];simp only[happends,ht,htu,hlift_some,hd1,hd2,hx,hte,hs,hoid,ho];exact⟨hc2,h.1,h.2.1,h.2.2.1,hK'⟩
       · cases hp;exact .inr ⟨by simp only[isEff,hcal],by grind[HV.ids]⟩
      · exact h.elim
     · exact h.elim
    grind
   rw[if_pos htt]at h;unfold happend2 at h;split at h
   ·
    rename_i id k n hs;rw[aC]at h;obtain⟨ti,ht,h⟩:=h;have htouch:touch (.call cl) e=(e s).ids++(e x).ids:=by simp only[touch,hcal,hargs,List.flatMap_cons,List.flatMap_nil,List.append_nil]
    split at h
    ·
     rename_i el hd1;rw[aC]at h;obtain⟨te,hte,h⟩:=h;rw[aC]at h;obtain⟨l2,hl2,hc2,h⟩:=h;split at h
     ·
      rename_i e' sz D ho;refine⟨_,some (id,_),h.2.2.2,fun ob' hag K' hK'=>?_,fun p hp=>?_,by simp[cC,hcal]⟩
      · simp only[hop,hcal,hargs,hat,happend2,hs,ht,hlift_some,hd1,hte];rw[if_pos htt];rw[fI (fun i hi=>hag i (by rw[htouch];exact List.mem_append_right _ hi)),hl2];simp only[hlift_some];rw[hag id (by grind[HV.ids]),ho];exact⟨hc2,h.1,h.2.1,h.2.2.1,hK'⟩
      · cases hp;exact .inr ⟨by simp only[isEff,hcal],by grind[HV.ids]⟩
     · exact h.elim
    grind
   rename_i hns;have e2: ∀(ob':Ob) (K':HV→Ob→Prop),happend2 P t (e s) (e x) nid ob' K'=happend P t (e s) (e x) nid ob' K':=fun ob' K'=>by grind[happend2,id,absurd]
   unfold happend at h;rw[aC]at h;obtain⟨ti,ht,h⟩:=h;have htouch:touch (.call cl) e=(e s).ids++(e x).ids:=by simp only[touch,hcal,hargs,List.flatMap_cons,List.flatMap_nil,List.append_nil]
   split at h
   ·
    rename_i el hd1;rw[aC]at h;obtain⟨te,hte,h⟩:=h;rw[aC]at h;obtain⟨l2,hl2,hc2,h⟩:=h;split at h
    ·
     rename_i id n hs;split at h
     ·
      rename_i e' sz l ho;refine⟨_,some (id,_),h.2.2.2,fun ob' hag K' hK'=>?_,fun p hp=>?_,by simp[cC,hcal]⟩
      · simp only[hop,hcal,hargs,hat,e2,happend,ht,hlift_some,hd1,hte];rw[if_pos htt];rw[fI (fun i hi=>hag i (by rw[htouch];exact List.mem_append_right _ hi)),hl2];simp only[hlift_some,hs];rw[hag id (by rw[htouch,hs];simp[HV.ids]),ho];exact⟨hc2,h.1,h.2.1,h.2.2.1,hK'⟩
      · cases hp;exact .inr ⟨by simp only[isEff,hcal],by grind[HV.ids]⟩
     · exact h.elim
    · rename_i hs;refine⟨_,some (nid,_),h.2.2,fun ob' hag K' hK'=>?_,by simp,by grind[cC]⟩;simp only[hop,hcal,hargs,hat,e2,happend,ht,hlift_some,hd1,hte];rw[if_pos htt];rw[fI (fun i hi=>hag i (by grind)),hl2];simp only[hlift_some,hs];exact⟨hc2,h.1,h.2.1,hK'⟩
    · exact h.elim
   grind
  ·
   rename_i x y t1 t2 hcal hargs hat;unfold hmax at h;split at h
   · rename_i k i1 k' i2 hx hy;exact⟨_,none,h.2,fun ob' _ K' hK'=>(by simp only[hop,hcal,hargs,hat,hmax,hx,hy];exact⟨h.1,hK'⟩),by simp,fun _=>rfl⟩
   grind
  ·
   rename_i x y t1 t2 hcal hargs hat;unfold hmax at h;split at h
   · rename_i k i1 k' i2 hx hy;exact⟨_,none,h.2,fun ob' _ K' hK'=>(by simp only[hop,hcal,hargs,hat,hmax,hx,hy];exact⟨h.1,hK'⟩),by simp,fun _=>rfl⟩
   grind
  ·
   rename_i x t hcal hargs hat;have htouch:touch (.call cl) e=(e x).ids:=by simp only[touch,hcal,hargs,List.flatMap_cons,List.flatMap_nil,List.append_nil]
   unfold hclear at h;rw[aC]at h;obtain⟨ti,ht,h⟩:=h;split at h
   ·
    rename_i el id n lo sz hi hd1 hx;rw[aC]at h;obtain⟨te,hte,h⟩:=h;split at h
    ·
     rename_i e' sz' l ho;refine⟨_,some (id,_),h.2,fun ob' hag K' hK'=>?_,fun p hp=>?_,by simp[cC,hcal]⟩
     · have hoid:=hag id (by grind[HV.ids]);simp only[hop,hcal,hargs,hat,hclear,ht,hlift_some,hd1,hx,hte,hoid,ho];exact⟨h.1,hK'⟩
     · cases hp;exact .inr ⟨by simp only[isEff,hcal],by grind[HV.ids]⟩
    · exact h.elim
   grind
  ·
   rename_i x y t t' hcal hargs hat;have htouch:touch (.call cl) e=(e x).ids++(e y).ids:=by simp only[touch,hcal,hargs,List.flatMap_cons,List.flatMap_nil,List.append_nil]
   unfold hcopy at h;rw[aC]at h;obtain⟨ti,ht,h⟩:=h;split at h
   ·
    rename_i el id n lo sz hi hd1 hx;rw[aC]at h;obtain⟨te,hte,h⟩:=h;split at h
    ·
     rename_i T l ho;rw[aC]at h;obtain⟨u,hu,h⟩:=h;refine⟨_,some (id,_),h.2,fun ob' hag K' hK'=>?_,fun p hp=>?_,by simp[cC,hcal]⟩
     · have hoid:=hag id (by grind[HV.ids]);simp only[hop,hcal,hargs,hat,hcopy,ht,hlift_some,hd1,hx,hte,hoid,ho];rw[fI (fun i hi=>hag i (by rw[htouch];exact List.mem_append_right _ hi)),hu];simp only[hlift_some];exact⟨h.1,hK'⟩
     · cases hp;exact .inr ⟨by simp only[isEff,hcal],by grind[HV.ids]⟩
    · exact h.elim
   grind
  grind
 ·
  rename_i t x;unfold hmkIface at h;rw[aC]at h;obtain⟨ti,ht,h⟩:=h;split at h
  · rename_i v hx;exact⟨_,none,h.2,fun ob' _ K' hK'=>(by simp only[hop,hmkIface,ht,hlift_some,hx];exact⟨h.1,hK'⟩),by simp,fun _=>rfl⟩
  grind
 ·
  rename_i x s t;unfold hassert at h;rw[aC]at h;obtain⟨ti,ht,h⟩:=h;split at h
  · rename_i t' v hx;exact⟨_,none,h.2,fun ob' _ K' hK'=>(by simp only[hop,hassert,ht,hlift_some,hx];exact⟨h.1,hK'⟩),by simp,fun _=>rfl⟩
  grind
 ·
  rename_i t len cap;unfold hmakeSlice at h;rw[aC]at h;obtain⟨ti,ht,h⟩:=h;split at h
  ·
   rename_i el k1 l k2 m hd1 hlen hcap;rw[aC]at h;obtain⟨te,hte,h⟩:=h;by_cases hl0:l=0
   · rw[if_pos hl0]at h;exact⟨_,some (nid,_),h.2,fun ob' _ K' hK'=>(by simp only[hop,hmakeSlice,ht,hlift_some,hd1,hlen,hcap,hte];rw[if_pos hl0];exact⟨h.1,hK'⟩),by simp,by simp[cC]⟩
   · rw[if_neg hl0]at h;exact⟨_,some (nid,_),h.2,fun ob' _ K' hK'=>(by simp only[hop,hmakeSlice,ht,hlift_some,hd1,hlen,hcap,hte];rw[if_neg hl0];exact⟨h.1,hK'⟩),by simp,by simp[cC]⟩
  grind
 grind
/- References that are closed: a slice of one's own that nobody will write any more. -/
mutual
def HV.close (ob:Ob)(cl:List Nat):HV→HV
 | .c v=> .c v.denil
 | .own id n=>if cl.contains id=true then(match ob id with
  |some (.row _ _ l)=>if n=l.length then .c (.slc l)else .own id n
  |_=> .own id n)else .own id n
 | .osl id n lo sz hi=>if cl.contains id=true then(match ob id with
  |some (.row _ sz' l)=>if n=l.length∧0<n∧sz=sz'∧lo≤hi∧hi≤n then .c (.slc ((l.drop lo).take (hi-lo)))else .osl id n lo sz hi
  |_=> .osl id n lo sz hi)else .osl id n lo sz hi
 | .agg l=> .agg (HV.closeL ob cl l)
 | .tup l=> .tup (HV.closeL ob cl l)
 |v=>v
def HV.closeL (ob:Ob)(cl:List Nat):List HV→List HV
 |[]=>[]
 |v::vs=>(v.close ob cl).norm::HV.closeL ob cl vs
end
section
variable {P:Program}{w:World}{ρ ρ2:Env}{X:Nat→Prop}{ob:Ob}{cl:List Nat}
theorem HV.close_agg (v:HV):(v.close ob cl).isAgg=v.isAgg:=by
 cases v with
 |c v=>simp only[HV.close,HV.isAgg,CV.denil_isAgg]
 |own id n=>
  simp only[HV.close];split
  ·
   split
   · split<;>rfl
   · rfl
  · rfl
 |osl id n lo sz hi=>
  simp only[HV.close];split
  ·
   split
   · split<;>rfl
   · rfl
  · rfl
 |_=>simp only[HV.close,HV.isAgg]
theorem lP : ∀l:List HV,(HV.closeL ob cl l).length=l.length
 |[]=>rfl
 |v::vs=>by simp only[HV.closeL,List.length_cons,lP vs]
mutual
theorem lD : ∀v:HV,(v.close ob cl).cells=v.cells∧(v.sto=true→(v.close ob cl).sto=true)
 | .junk=>by simp[HV.close]
 | .c v=>by simp[HV.close,HV.cells,HV.sto,CV.denil_cells]
 | .agg l=>by simp only[HV.close,HV.cells,HV.sto];exact mS l
 | .own id n=>by grind[HV.close,HV.cells,CV.cells,HV.sto]
 | .ptr .. =>by simp[HV.close]
 | .eptr .. =>by simp[HV.close]
 | .osl id n lo sz hi=>by grind[HV.close,HV.cells,CV.cells,HV.sto]
 | .mapr .. =>by simp[HV.close]
 | .mrow .. =>by simp[HV.close]
 | .clo .. =>by simp[HV.close]
 | .opq _=>by simp[HV.close]
 | .tup _=>by simp[HV.close,HV.cells,HV.sto]
theorem mS : ∀l:List HV,HV.cellsL (HV.closeL ob cl l)=HV.cellsL l∧(HV.stoL l=true→HV.stoL (HV.closeL ob cl l)=true)
 |[]=>by simp[HV.closeL]
 |v::vs=>by
  simp only[HV.closeL,HV.cellsL,HV.stoL,HV.norm_cells,lD v,mS vs,Bool.and_eq_true,true_and];exact fun h=>⟨HV.norm_sto ((lD v).2 h.1),(mS vs).2 h.2⟩
end
theorem qL {sz:Nat}: ∀l:List HV,(∀v∈l,v.cells=sz∧v.sto=true)→ ∀v∈HV.closeL ob cl l,v.cells=sz∧v.sto=true
 |[],_=>by simp[HV.closeL]
 |v::vs,h=>by
  simp only[HV.closeL,List.forall_mem_cons]at h⊢;exact⟨⟨by grind[HV.norm_cells,lD],HV.norm_sto ((lD v).2 h.1.2)⟩,qL vs h.2⟩
theorem bI4 (hS:RepS w ρ X ob)(hcl: ∀id∈cl,ρ2 id=none)(hρ: ∀id L,ρ2 id=some L→ρ id=some L)(hst:Stay w (Owned ρ X) w (Owned ρ2 X)){id n:Nat}{cs:List Value}
  (h:RepH w ρ (Owned ρ X) (.own id n) cs):RepH w ρ2 (Owned ρ2 X) ((HV.own id n).close ob cl) cs:=by
 have stale:RepH w ρ2 (Owned ρ2 X) (.own id n) cs:=by
  simp only[RepH]at h⊢;obtain⟨x,h1,h2,h3⟩:=h;exact⟨x,h1,h2,fun hd hh=>h3 hd (hρ _ _ hh)⟩
 simp only[HV.close];split
 ·
  rename_i hin;split
  ·
   rename_i e sz l ho;split
   ·
    rename_i hn;simp only[RepH,RepC]at h⊢;obtain⟨x,rfl,h2,h3⟩:=h;obtain⟨hd,xs,hρ1,hl,hcs,how⟩:=hS.objs id _ ho;obtain⟨e1,e2⟩:=h3 hd hρ1;have hin':id∈cl:=by simpa using hin
    rcases how.2 with⟨rfl,hz⟩|⟨g,cap,cur,rfl,hg0,hg,hcap,_⟩
    · have hx:=e2 (by simp[hlen,hn,hz]);exact⟨none,0,xs,sz,by rw[hx,hz],hl.stay hst,hcs,by omega,fun _=>rfl,fun ad had=>(by grind)⟩
    ·
     have hx:=e2 (by simp[hlen,hn]);refine⟨some ⟨g,0,none⟩,cap,xs,sz,by rw[hx],hl.stay hst,hcs,hcap,fun hh=>(by grind),fun ad had=>?_⟩;cases had;refine⟨how.cells (g:=g) rfl,fun _=>?_⟩;rintro(hx2|⟨id',L,h4,h5⟩)
     · exact hS.xb id _ g hρ1 rfl hx2
     · have:=hS.apart id' id L _ g (hρ _ _ h4) hρ1 h5 rfl;subst this;rw[hcl id' hin']at h4;cases h4
   grind
  grind
 grind
theorem bI5 (hS:RepS w ρ X ob)(hcl: ∀id∈cl,ρ2 id=none)(hρ: ∀id L,ρ2 id=some L→ρ id=some L)(hst:Stay w (Owned ρ X) w (Owned ρ2 X)){id n lo sz hi:Nat}{cs:List Value}
  (h:RepH w ρ (Owned ρ X) (.osl id n lo sz hi) cs):RepH w ρ2 (Owned ρ2 X) ((HV.osl id n lo sz hi).close ob cl) cs:=by
 have stale:RepH w ρ2 (Owned ρ2 X) (.osl id n lo sz hi) cs:=by
  simp only[RepH]at h⊢;obtain⟨x,h1,h2,h3,h4⟩:=h;exact⟨x,h1,h2,fun hd hh=>h3 hd (hρ _ _ hh),fun b hh=>h4 b (hρ _ _ hh)⟩
 simp only[HV.close];split
 ·
  rename_i hin;split
  ·
   rename_i e sz' l ho;split
   ·
    rename_i hc;obtain⟨hn,hn0,rfl,hlo,hhi⟩:=hc;simp only[RepH,RepC]at h⊢;obtain⟨x,rfl,h2,h3,_⟩:=h;obtain⟨hd,xs,hρ1,hl,hcs,how⟩:=hS.objs id _ ho;obtain⟨e1,e2⟩:=h3 hd hρ1;have hin':id∈cl:=by simpa using hin
    rcases how.2 with⟨rfl,hz⟩|⟨g,cap,cur,rfl,hg0,hg,hcap,_⟩
    · omega
    ·
     have hx:=e2 (by simp[hlen,hn]) g cap (by rw[hn]);have hlen':((l.drop lo).take (hi-lo)).length=hi-lo:=by simp;omega
     refine⟨_,cap-lo,(xs.drop (lo*sz)).take ((hi-lo)*sz),sz,by rw[hx,hlen'],(fM _ (iF _ hl hcs) (fun v hv=>hcs v (List.mem_of_mem_drop hv))).stay hst,fun v hv=>hcs v (List.mem_of_mem_drop (List.mem_of_mem_take hv)),by omega,fun hh=>(by cases hh),fun ad had=>?_⟩;cases had;have hcell:=how.cells (g:=g) rfl;refine⟨fun j u hj=>?_,fun _=>?_⟩
     ·
      by_cases hce:cap=lo
      ·
       have:hi-lo=0:=by omega
       rw[this]at hj;simp at hj
      ·
       rw[if_neg hce];have hj2:=hj;rw[List.getElem?_take]at hj2;split at hj2
       ·
        rw[List.getElem?_drop]at hj2;have:=hcell _ _ hj2;by_cases hj0:j=0
        ·
         subst hj0;by_cases hz:lo*sz=0
         · simpa[Addr.add,hz]using this
         · simpa[Addr.add,hz]using this
        · simpa[Addr.add,hj0,Nat.add_comm,Nat.add_left_comm]using this
       · cases hj2
     ·
      rintro(hx2|⟨id',L,h4,h5⟩)
      · exact hS.xb id _ g hρ1 rfl hx2
      · have:=hS.apart id' id L _ g (hρ _ _ h4) hρ1 h5 rfl;subst this;rw[hcl id' hin']at h4;cases h4
   grind
  grind
 grind
mutual
theorem jF (hS:RepS w ρ X ob)(hcl: ∀id∈cl,ρ2 id=none)(hρ: ∀id L,ρ2 id=some L→ρ id=some L)(hst:Stay w (Owned ρ X) w (Owned ρ2 X)): ∀{v:HV} {cs:List Value},RepH w ρ (Owned ρ X) v cs→RepH w ρ2 (Owned ρ2 X) (v.close ob cl) cs
 | .c v,cs,h=>by simp only[RepH,HV.close]at h⊢;exact CV.denil_rep (h.stay hst)
 | .own id n,cs,h=>bI4 hS hcl hρ hst h
 | .agg l,cs,h=>by simp only[RepH,HV.close]at h⊢;exact mT hS hcl hρ hst h
 | .tup l,cs,h=>by
  simp only[RepH,HV.close]at h⊢;obtain⟨xs,h1,h2⟩:=h;exact⟨xs,h1,xU hS hcl hρ hst h2⟩
 | .junk,cs,h=>by simp only[RepH]at h
 | .ptr id off,cs,h=>by grind[RepH,HV.close]
 | .eptr id n i sz off,cs,h=>by grind[RepH,HV.close]
 | .osl ..,cs,h=>bI5 hS hcl hρ hst h
 | .mapr id,cs,h=>by grind[RepH,HV.close]
 | .mrow id k n,cs,h=>by grind[RepH,HV.close]
 | .opq _,cs,h=>by grind[RepH,HV.close]
 | .clo f caps,cs,h=>by
  simp only[RepH,HV.close]at h⊢;obtain⟨xs,h1,h2⟩:=h;exact⟨xs,h1,RepHV.stay (M:=fun _=>True) hst (fun id L _ hL=>⟨L,hρ _ _ hL,.inl rfl⟩) (HV.menL_true _) h2⟩
theorem mT (hS:RepS w ρ X ob)(hcl: ∀id∈cl,ρ2 id=none)(hρ: ∀id L,ρ2 id=some L→ρ id=some L)(hst:Stay w (Owned ρ X) w (Owned ρ2 X)): ∀{l:List HV} {cs:List Value},RepHL w ρ (Owned ρ X) l cs→RepHL w ρ2 (Owned ρ2 X) (HV.closeL ob cl l) cs
 |[],cs,h=>by grind[RepHL,HV.closeL]
 |v::vs,cs,h=>by
  simp only[RepHL,HV.closeL]at h⊢;obtain⟨c1,c2,h1,h2,h3⟩:=h;exact⟨c1,c2,h1,HV.norm_rep (jF hS hcl hρ hst h2),mT hS hcl hρ hst h3⟩
theorem xU (hS:RepS w ρ X ob)(hcl: ∀id∈cl,ρ2 id=none)(hρ: ∀id L,ρ2 id=some L→ρ id=some L)(hst:Stay w (Owned ρ X) w (Owned ρ2 X)): ∀{l:List HV} {xs:List Value},RepHV w ρ (Owned ρ X) l xs→RepHV w ρ2 (Owned ρ2 X) (HV.closeL ob cl l) xs
 |[],xs,h=>by grind[RepHV,HV.closeL]
 |v::vs,xs,h=>by
  simp only[RepHV,HV.closeL]at h⊢;obtain⟨y,ys,h1,⟨h2,h2'⟩,h3⟩:=h;exact⟨y,ys,h1,⟨HV.norm_rep (jF hS hcl hρ hst h2),by grind[HV.norm_agg,HV.close_agg]⟩,xU hS hcl hρ hst h3⟩
end
end
def esL :Nat→List (Int×List UInt8)→List MapEntry
 |_,[]=>[]
 |b,(z,s)::l=>⟨.int .i64 z,.string ⟨s.toArray⟩,b⟩::esL (b+1) l
def iG (l:List (Int×List UInt8)):Array MapEntry:=(esL 0 l).toArray
theorem aW4 (b:Nat)(l m:List (Int×List UInt8)):esL b (l++m)=esL b l++esL (b+l.length) m:=by
 induction l generalizing b with
 |nil=>rfl
 |cons x l ih=>simp only[List.cons_append,esL,ih,List.length_cons];congr 3;omega
theorem bI6 (l:List (Int×List UInt8))(z:Int)(s:List UInt8):(iG l).push ⟨.int .i64 z,.string ⟨s.toArray⟩,l.length⟩=iG (l++[(z,s)]):=by
 simp[iG,aW4,esL]
theorem bD0 (b:Nat)(l:List (Int×List UInt8)): ∀e∈esL b l,∃j,∃h:j<l.length,e=⟨.int .i64 l[j].1,.string ⟨l[j].2.toArray⟩,b+j⟩:=by
 induction l generalizing b with
 |nil=>intro e he;cases he
 |cons x l ih=>
  intro e he;rcases List.mem_cons.1 he with rfl|he
  · exact⟨0,by simp,rfl⟩
  · obtain⟨j,hj,rfl⟩:=ih (b+1) e he;exact⟨j+1,by simpa using hj,by simp;omega⟩
theorem bS1 (b:Nat)(l:List (Int×List UInt8))(j:Nat)(h:j<l.length):(⟨.int .i64 l[j].1,.string ⟨l[j].2.toArray⟩,b+j⟩:MapEntry)∈esL b l:=by
 induction l generalizing b j with
 |nil=>simp at h
 |cons x l ih=>
  cases j with
  |zero=>exact List.mem_cons_self
  |succ j=>
   have:=ih (b+1) j (by simpa using h);simp only[esL,List.getElem_cons_succ];rw[show b+(j+1)=b+1+j by omega];exact List.mem_cons_of_mem _ this
def lkG (l:List (Int×List UInt8))(z:Int):Option (List UInt8):=(l.find? (·.1==z)).map (·.2)
theorem qM (z:Int): ∀(b i:Nat) (l:List (Int×List UInt8)),∃r,Instr.findNow (.int .i64) (.int .i64 z) (esL b l) i=some r∧r.map (·.2)=(lkG l z).map fun s=>Value.string ⟨s.toArray⟩
 |b,i,[]=>⟨none,rfl,rfl⟩
 |b,i,(y,s)::l=>by
  simp only[esL,Instr.findNow,Instr.sameNow,if_true];cases h:z==y with
  |true=>
   have e:z=y:=by simpa using h
   exact⟨_,rfl,by simp[lkG,e]⟩
  |false=>
   obtain⟨r,h1,h2⟩:=qM z (b+1) (i+1) l;refine⟨r,h1,?_⟩;have e: ¬y=z:=fun e=>by rw[e]at h;simp at h
   rw[h2];simp[lkG,beq_false_of_ne e]
theorem aW5 {kt:TypeId}{z:Int}(hkt:P.underlying kt=some (.int .i64))(b:Bool):(Instr.checkKey b 10000 kt (.int .i64 z)).run P w= .ok () w:=by
 have key: ∀m,(Instr.checkKey b (m+1) kt (.int .i64 z)).run P w= .ok () w:=fun m=>by
  unfold Instr.checkKey;simp[run_underlying hkt,Result.andThen]
 exact key 9999
section
variable {fr:Fr}{ob:Ob}{c:Ctx}{M:Nat→Prop}{a:Act}{w:World}{ρ:Env}
theorem aW6 (h:RepA' c M fr ob a w ρ){x:Operand}{id:Nat}(hx:ev fr x= .mapr id){es:Array MapEntry}{ck:Nat}(ho:ob id=some (.raw es ck)):
  ∃b,ρ id=some (.mp b fun _=>none)∧a.eval x= .map (some b)∧w.heap[b]? =some (.map es ck):=by
 have hr:=dI (h.ev x (by rw[hx];simp)) (by rw[hx];rfl);rw[hx]at hr;simp only[RepH]at hr;obtain⟨⟨y,hy,hy1,hy2⟩,_⟩:=hr;simp only[List.cons.injEq,and_true]at hy;obtain⟨b,h1,h2⟩:=h.s.objs id _ ho;exact⟨b,h1,by rw[hy];exact hy2 _ _ h1,h2⟩
end
def bS2 (P:Program)(t:TypeId):Prop:= ∃kt et,P.underlying t=some (.map kt et)∧P.underlying kt=some (.int .i64)∧ ∀w,(zeroValue et).run P w= .ok (.string ⟨#[]⟩) w
end Go.Hl
