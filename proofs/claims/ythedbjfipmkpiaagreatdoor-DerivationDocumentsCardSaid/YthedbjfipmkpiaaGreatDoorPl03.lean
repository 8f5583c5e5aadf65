/- Plain Lean: paths and patterns (chapter 3). By an AI agent. -/
import Derived.Test.YthedbjfipmkpiaaGreatDoorPl18e
import Derived.WalkKit
import Derived.ProofKit
import Derived.OpenShut
import Derived.ReadAgain
import Derived.ChangeBears
import Derived.Test.YthedbjfipmkpiaaGreatDoorHdSb
import Derived.Sort.Grow
import Derived.Sort.EncStr
import Derived.Lib.LaidTab
import Derived.Deep.Draws
import Derived.LaidSub
import Derived.Test.YthedbjfipmkpiaaGreatDoorHlEs
import Derived.Maps.RangeRun
import Derived.Test.YthedbjfipmkpiaaGreatDoorHlK
import Derived.Laws.Externs
import Derived.Lib.BytesEntry
import Derived.Test.YthedbjfipmkpiaaGreatDoorPl31
set_option linter.unusedSimpArgs false
set_option linter.unusedVariables false
set_option linter.defProp false
namespace Go.Hl
open Go
inductive HasTy (P:Program):TypeId→CV→Prop where
 |bool {t:TypeId} (hu:P.underlying t=some .bool) (b:Bool):HasTy P t (.bool b)
 |int {t:TypeId} {k:IntKind} (hu:P.underlying t=some (.int k)) {n:Int} (hw:(Lit.int k n).wf=true):HasTy P t (.int k n)
 |str {t:TypeId} (hu:P.underlying t=some .string) {s:List UInt8} (hs:s.length≤maxLen):HasTy P t (.str s)
 |slc {t e:TypeId} (hu:P.underlying t=some (.slice e)) {l:List CV} (hl: ∀x∈l,HasTy P e x) (hn:l.length≤maxLen):HasTy P t (.slc l)
 |arr {t e:TypeId} {m:Nat} (hu:P.underlying t=some (.array m e)) {l:List CV} (hl: ∀x∈l,HasTy P e x) (hn:l.length=m):HasTy P t (.agg l)
 |struct {t:TypeId} {fs:Array Field} (hu:P.underlying t=some (.struct fs)) {l:List CV} (hn:l.length=fs.size) (hl: ∀(i:Nat) (f:Field) (x:CV),fs.toList[i]? =some f→l[i]? =some x→HasTy P f.type x):HasTy P t (.agg l)
variable {c:CV}{t:TypeId}{P:Program}
theorem HasTy.of_int {k:IntKind}(hu:P.underlying t=some (.int k))(h:HasTy P t c): ∃n,c= .int k n∧(Lit.int k n).wf=true:=by
 cases h with
 |int h2 hw=>grind
 |bool h2|str h2|slc h2|arr h2|struct h2=>rw[hu]at h2;cases h2
theorem HasTy.of_slc {e:TypeId}(hu:P.underlying t=some (.slice e))(h:HasTy P t c): ∃l,c= .slc l∧(∀x∈l,HasTy P e x)∧l.length≤maxLen:=by
 cases h with
 |slc h2 hl hn=>grind
 |int h2|bool h2|str h2|arr h2|struct h2=>rw[hu]at h2;cases h2
def lP (P:Program):Nat→TypeId→Bool
 |0,_=>false
 |n+1,t=>match P.underlying t with
  |some .bool|some (.int _)|some .string=>true
  |some (.slice e)=>lP P n e
  |some (.array _ e)=>lP P n e
  |some (.struct fs)=>fs.toList.all fun f=>lP P n f.type
  |_=>false
theorem lQ {α:Type}{w:World}{O:Nat→Prop}{g:α→List Value}{R:α→CV→Prop}: ∀(l:List α),(∀a∈l,∃c,RepC w O c (g a)∧R a c)→
  ∃cl:List CV,RepL w O cl (l.flatMap g)∧cl.length=l.length∧ ∀(i:Nat) a c,l[i]? =some a→cl[i]? =some c→R a c
 |[],_=>⟨[],by simp[RepL],rfl,by simp⟩
 |a::l,h=>by
  obtain⟨c,h1,h2⟩:=h a (by simp);obtain⟨cl,h3,h4,h5⟩:=lQ l (fun x hx=>h x (by grind));refine⟨c::cl,by simp only[List.flatMap_cons,RepL];grind,by grind,fun i x y hx hy=>?_⟩;grind
theorem vZ {cw:Field→Nat}{cs:List Value}: ∀(fs:List Field) (k:Nat),(∀(j:Nat) f,fs[j]? =some f→f.offset=k+((fs.take j).map cw).sum)→
  fs.flatMap (fun f=>(cs.drop f.offset).take (cw f))=(cs.drop k).take ((fs.map cw).sum)
 |[],k,_=>by simp
 |f::fs,k,h=>by
  have h0:=h 0 f rfl;simp only[List.take_zero,List.map_nil,List.sum_nil,Nat.add_zero]at h0;have ih:=vZ (cw:=cw) (cs:=cs) fs (k+cw f) (fun j g hg=>by
   have:=h (j+1) g (by grind);grind)
  grind[List.drop_drop]
theorem wC {cs:List Value}(c:Nat): ∀(m:Nat),(List.range m).flatMap (fun i=>(cs.drop (i*c)).take c)=cs.take (m*c)
 |0=>by simp
 |m+1=>by
  rw[List.range_succ,List.flatMap_append,wC c m];simp_all[List.flatMap_cons,List.flatMap_nil,List.append_nil,List.take_add,Nat.succ_mul]
theorem wD {w:World}{a:Addr}{c:Nat}{g:Nat→List Value}: ∀(m:Nat),(∀i,i<m→(g i).length=c∧ ∀r,r<c→w.cell? ((a.add (i*c)).add r)=(g i)[r]?)→
  ((List.range m).flatMap g).length=m*c∧ ∀j u,((List.range m).flatMap g)[j]? =some u→w.cell? (a.add j)=some u
 |0,_=>by simp
 |m+1,h=>by
  obtain⟨h1,h2⟩:=wD m (fun i hi=>h i (by omega));obtain⟨h3,h4⟩:=h m (by omega);rw[List.range_succ,List.flatMap_append];simp only[List.flatMap_cons,List.flatMap_nil,List.append_nil];refine⟨by rw[List.length_append,h1,h3,Nat.succ_mul],fun j u hj=>?_⟩;grind[List.getElem?_append_left,List.getElem?_append_right,List.getElem?_eq_some_iff,Addr.add_add]
section
variable {H:Type}{enc:TypeId×Value→H}{P:Program}{T:TypeId→Prop}{w:World}{base:Nat}{sp:Nat→Bool}{held:Bool}
theorem qN (K:Kids P T): ∀(m:Nat) (t:TypeId),lP P m t=true→T t→ ∀(n:Nat) (cs:List Value) (x:DataW H×List MemPlace),DataW.trod enc P w base sp held n t cs=some x→
  ∃c,RepC w (fun _=>False) c cs∧HasTy P t c∧cs.length=cs.length
 |0,t,hp,_,_,_,_,_=>by simp[lP]at hp
 |m+1,t,hp,hT,0,cs,x,h=>by simp[DataW.trod]at h
 |m+1,t,hp,hT,n+1,cs,x,h=>by
  unfold lP at hp;split at hp
  ·
   rename_i hu;unfold DataW.trod at h;rw[hu]at h;split at h
   case h_1=>rename_i b h1;exact⟨.bool b,by simp[RepC],.bool hu b,rfl⟩
   all_goals grind
  ·
   rename_i k hu;unfold DataW.trod at h;rw[hu]at h;split at h
   case h_2=>
    rename_i k' k2 n2 h1;cases h1;split at h
    · rename_i hc;obtain⟨rfl,hw⟩:=hc;exact⟨.int _ n2,by simp[RepC],.int hu hw,rfl⟩
    grind
   all_goals grind
  ·
   rename_i hu;unfold DataW.trod at h;rw[hu]at h;split at h
   case h_4=>
    rename_i s h1;split at h
    · rename_i hc;refine⟨.str s.data.toList,by simp[RepC],.str hu ?_,rfl⟩;simp_all
    grind
   all_goals grind
  ·
   rename_i e hu;unfold DataW.trod at h;rw[hu]at h;split at h
   case h_7=>
    rename_i el h1;exact⟨.slc [],by simp only[RepC];exact⟨none,0,[],0,rfl,by simp[RepL],by simp,by simp,fun _=>rfl,fun ad had=>(by grind)⟩,.slc hu (by simp) (by simp),rfl⟩
   case h_8=>
    rename_i e' a len cap h1;cases h1;simp only at h;split at h
    ·
     rename_i hc;obtain⟨hb,hlc,hcm⟩:=hc;rw[Option.bind_eq_some_iff]at h;obtain⟨elems,he,_⟩:=h;have hel: ∀i,i<len→ ∃cl,w.cells? base (a.add (i*P.cellsOf e)) (P.cellsOf e)=some cl∧ ∃y,DataW.trod enc P w base sp held n e cl=some y:=fun i hi=>by
      have:=mapM_some_get he i i (by grind);grind[hlen,mapM_some_length,List.length_range,List.getElem?_eq_getElem,Option.bind_eq_some_iff]
     let g:Nat→List Value:=fun i=>(w.cells? base (a.add (i*P.cellsOf e)) (P.cellsOf e)).getD []
     have hg: ∀i,i<len→(g i).length=P.cellsOf e∧ ∀r,r<P.cellsOf e→w.cell? ((a.add (i*P.cellsOf e)).add r)=(g i)[r]? :=fun i hi=>by
      obtain⟨cl,h3,_⟩:=hel i hi;obtain⟨_,h4,h5⟩:=World.cells?_some h3;grind
     obtain⟨cl,hr,hlen,hty⟩:=lQ (w:=w) (O:=fun _=>False) (g:=g) (R:=fun i c=>HasTy P e c∧c.cells=P.cellsOf e) (List.range len) (fun i hi=>by
      have hi':=List.mem_range.1 hi;obtain⟨cl,h3,y,h4⟩:=hel i hi';have hgi:g i=cl:=by simp[g,h3]
      obtain⟨c,q1,q2,_⟩:=qN K m e hp (K.slice hT hu) n cl y h4;grind[bM,World.cells?_some])
     simp only[List.length_range]at hlen;have hmem: ∀x∈cl,HasTy P e x∧x.cells=P.cellsOf e:=fun x hx=>by
      obtain⟨i,hi,rfl⟩:=List.getElem_of_mem hx;exact hty i i _ (List.getElem?_range (by omega)) (by rw[List.getElem?_eq_getElem hi])
     refine⟨.slc cl,?_,.slc hu (fun x hx=>(hmem x hx).1) (by omega),rfl⟩;simp only[RepC];refine⟨some a,cap,_,P.cellsOf e,by rw[hlen],hr,fun v hv=>(hmem v hv).2,by omega,fun hh=>(by grind),fun ad had=>?_⟩;cases had;exact⟨(wD len hg).2,fun _ h=>h⟩
    grind
   all_goals grind
  ·
   rename_i k e hu;unfold DataW.trod at h;rw[hu]at h;split at h
   case h_10=>
    rename_i cs0 _ _ k' e' h1;cases h1;split at h
    ·
     rename_i hc;rw[Option.map_eq_some_iff]at h;obtain⟨xs,hxs,_⟩:=h;obtain⟨hTe,hce⟩:=K.array hT hu;obtain⟨cl,hr,hlen,hty⟩:=lQ (w:=w) (O:=fun _=>False) (g:=fun i=>(cs0.drop (i*P.cellsOf e)).take (P.cellsOf e)) (R:=fun i c=>HasTy P e c) (List.range k) (fun i hi=>by
      have hi':=List.mem_range.1 hi;have:=mapM_some_get hxs i i (by grind);have hlen:=mapM_some_length hxs;simp only[List.length_range]at hlen;rw[List.getElem?_eq_getElem (by omega)]at this;obtain⟨c,q1,q2,_⟩:=qN K m e hp hTe n _ _ this;grind)
     simp only[List.length_range]at hlen;rw[wC,←hce,←hc,List.take_length]at hr;refine⟨.agg cl,hr,.arr hu (fun x hx=>?_) hlen,rfl⟩;obtain⟨i,hi,rfl⟩:=List.getElem_of_mem hx;exact hty i i _ (List.getElem?_range (by omega)) (by rw[List.getElem?_eq_getElem hi])
    grind
   all_goals grind
  ·
   rename_i fs hu;unfold DataW.trod at h;rw[hu]at h;split at h
   case h_9=>
    rename_i cs0 _ _ fs' h1;cases h1;split at h
    ·
     rename_i hc;rw[Option.map_eq_some_iff]at h;obtain⟨xs,hxs,_⟩:=h;obtain⟨hTf,hsum,hoff⟩:=K.struct hT hu;obtain⟨cl,hr,hlen,hty⟩:=lQ (w:=w) (O:=fun _=>False) (g:=fun f:Field=>(cs0.drop f.offset).take (P.cellsOf f.type)) (R:=fun f c=>HasTy P f.type c) fs.toList (fun f hf=>by
      obtain⟨i,hi,rfl⟩:=List.getElem_of_mem hf;have:=mapM_some_get hxs i _ (List.getElem?_eq_getElem hi);have hlen:=mapM_some_length hxs;rw[List.getElem?_eq_getElem (by omega)]at this;obtain⟨c,q1,q2,_⟩:=qN K m _ (List.all_eq_true.1 hp _ (List.getElem_mem hi)) (hTf _ (List.getElem_mem hi)) n _ _ this;grind)
     rw[vZ (cw:=fun f=>P.cellsOf f.type) fs.toList 0 (fun j f hf=>by grind),List.drop_zero,←hsum,←hc,List.take_length]at hr;exact⟨.agg cl,hr,.struct hu (by grind) hty,rfl⟩
    grind
   all_goals grind
  grind
theorem uI {t:TypeId}{v:Value}{c:CV}(hc:HasTy P t c)(h:Value.okWide P w .any base t v):c.isAgg=Value.isAgg' v:=by
 cases hc with
 |bool hu b=>unfold Value.okWide at h;rw[hu]at h;simp only[Cell.okWide,hu]at h;cases v<;>simp_all[Cell.ok,CV.isAgg,Value.isAgg']
 |int hu hw=>unfold Value.okWide at h;rw[hu]at h;simp only[Cell.okWide,hu]at h;cases v<;>simp_all[Cell.ok,CV.isAgg,Value.isAgg']
 |str hu hs=>unfold Value.okWide at h;rw[hu]at h;simp only[Cell.okWide,hu]at h;cases v<;>simp_all[Cell.ok,CV.isAgg,Value.isAgg']
 |slc hu hl hn=>unfold Value.okWide at h;rw[hu]at h;simp only[Cell.okWide,hu]at h;cases v<;>simp_all[Cell.ok,CV.isAgg,Value.isAgg']
 |arr hu hl hn=>unfold Value.okWide at h;rw[hu]at h;obtain⟨cs,rfl,_⟩:=h;rfl
 |struct hu hn hl=>unfold Value.okWide at h;rw[hu]at h;obtain⟨cs,rfl,_⟩:=h;rfl
theorem aL2 (b:Nat): ¬Own (fun _=>none) b:=by rintro⟨_,_,h,_⟩;cases h
theorem qO (K:Kids P T){m:Nat}: ∀{ts:List TypeId} {vs:List Value} {ds:List (DataW H)} {ps:List MemPlace},DataW.TrodAll enc P w base sp held ts vs ds ps→(∀t∈ts,lP P m t=true∧T t)→
  (∀(j:Nat) t v,ts[j]? =some t→vs[j]? =some v→Value.okWide P w .any 0 t v)→
  ∃cs:List CV,RepHV w (fun _=>none) (Owned (fun _=>none) (fun _=>False)) (cs.map .c) vs∧cs.length=ts.length∧ds.length=ts.length∧ ∀(j:Nat) t c,ts[j]? =some t→cs[j]? =some c→HasTy P t c
 |[],vs,ds,ps,h,_,_=>by
  obtain⟨rfl,rfl,rfl⟩:=ChangeShapes.trodAll_nil h;exact⟨[],by simp[RepHV],rfl,rfl,by simp⟩
 |t::ts,vs,ds,ps,h,hp,ho=>by
  obtain⟨v,vs1,d,ds1,a,b,rfl,rfl,rfl,⟨n,h1⟩,h2⟩:=ChangeShapes.trodAll_cons h;obtain⟨c,q1,q2,_⟩:=qN (w:=w) K m t (hp t (by simp)).1 (hp t (by simp)).2 n _ _ h1;obtain⟨cs,r1,r2,r3,r4⟩:=qO K h2 (fun t ht=>hp t (by simp[ht])) (fun j t v h3 h4=>ho (j+1) t v (by simpa using h3) (by simpa using h4));have hst:Stay w (fun _=>False) w (Owned (fun _=>none) (fun _=>False)):=⟨fun b _ _=>⟨rfl,fun hb=>hb.elim (fun x=>x) (aL2 b)⟩⟩;refine⟨c::cs,?_,by simp[r2],by simp[r3],fun j t' c' h3 h4=>?_⟩
  · rw[List.map_cons,bP];exact⟨v,vs1,rfl,⟨by simp only[RepH];exact q1.stay hst,uI q2 (ho 0 t v rfl rfl)⟩,r1⟩
  ·
   cases j with
   |zero=>simp at h3 h4;rw[←h3,←h4];exact q2
   |succ j=>simp at h3 h4;exact r4 j t' c' h3 h4
theorem bE3 {w w':World}(h: ∀b,b<w.heap.size→w'.heap[b]? =w.heap[b]?){p:MemPlace}(hp:p.block<w.heap.size):w.sameAt w' p:=by
 cases p with
 |cell b off=>exact World.cell?_of_block (h b hp)
 |map b=>exact h b hp
theorem oM {w':World}: ∀{ts:List TypeId} {vs:List Value} {ds:List (DataW H)} {ps:List MemPlace},DataW.TrodAll enc P w base sp held ts vs ds ps→(∀p∈ps,w.sameAt w' p)→DataW.TrodAll enc P w' base sp held ts vs ds ps
 |[],_,_,_,h,_=>by
  obtain⟨rfl,rfl,rfl⟩:=ChangeShapes.trodAll_nil h;exact ChangeShapes.trodAll_mk0
 |t::ts,_,_,_,h,hs=>by
  obtain⟨v,vs1,d,ds1,a,b,rfl,rfl,rfl,⟨n,h1⟩,h2⟩:=ChangeShapes.trodAll_cons h;exact⟨a,b,⟨n,DataW.trod_carry n t _ _ h1 (fun p hp=>hs p (List.mem_append_left _ hp))⟩,oM h2 (fun p hp=>hs p (List.mem_append_right _ hp)),rfl⟩
theorem aT4 {w w':World}(h1:w'.os=w.os)(h2:w'.output=w.output)(h: ∀b,b<w.heap.size→w'.heap[b]? =w.heap[b]?)(may:MemPlace→Prop):w.keptBut w' may:=by
 refine⟨h1,h2,fun i hi=>?_⟩;grind
end
end Go.Hl
namespace Go.Hl
open Go Go.RowKit Go.Sort Go.Proofs
end Go.Hl
namespace Go.Hl
open Go Go.RowKit
end Go.Hl
namespace Go.Hl
open Go Go.RowKit Go.Sort
abbrev mY :=List (Nat×List Value)
def fL (T:mY):Ob:=fob [(0,.tab T)]
def mZ (P:Program)(f:FuncId)(T:mY)(args:List CV)(R:CV→Prop):Prop:=
 HFn P f (args.map .c) 1 (fL T) (fun r ob'=> ∃v,r= .c v∧ob'=fL T∧R v)
def qP (P:Program)(f:FuncId)(T:mY)(args:List CV)(R:CV→CV→Prop):Prop:=
 HFn P f (args.map .c) 1 (fL T) (fun r ob'=> ∃u v,r= .tup [.c u,.c v]∧ob'=fL T∧R u v)
theorem gD (T:mY)(j:Nat):fL T j=if j=0 then some (.tab T)else none:=by
 simp only[fL,fob_at,fob_nil]
theorem fR (T:mY)(args:List CV):LocOk 1 (args.map .c) (fL T):=by
 refine⟨fun j h=>?_,fun id o h=>?_,HV.menL_c⟩
 ·
  have:j=0:=by omega
  subst this;exact⟨_,rfl⟩
 grind[gD,HO.men]
variable {T:mY}{ob:Ob}
theorem bO3 {cl:List Nat}(hb:ob 0=some (.tab T))(h0:0∉cl)(j:Nat)(o:HO)(ho:fL T j=some o):
  j<1+4∧o.men (· <1+4)∧id j∉cl∧ ∃o0,ob (id j)=some o0∧(match o0 with| .box t v=>HO.box t (v.close ob cl).norm| .row e sz l=> .row e sz l| .mp e sz D=> .mp e sz D| .dead=> .dead| .tab T=> .tab T| .hrow e sz l=> .hrow e sz (HV.closeL ob cl l)| .raw es c=> .raw es c| .it m s q l=> .it m s q l)=o.ren id:=by
 rw[gD]at ho;split at ho
 ·
  subst_vars
  cases ho;exact⟨by omega,by simp[HO.men],h0,_,hb,rfl⟩
 grind
variable {r:HV}
theorem lR {R:CV→Prop}(cl:List Nat)(v:CV)(h:(r.close ob cl).norm= .c v)(hb:ob 0=some (.tab T))(h0:0∉cl)(hR:R v):
  iH 1 r ob (fun r ob'=> ∃v,r= .c v∧ob'=fL T∧R v):=
 ⟨cl,id,.c v,fL T,⟨v,rfl,rfl,hR⟩,by rw[h];rfl,fun _ _=>rfl,fun _ _ _ _ h=>h,by simp[HV.men],bO3 hb h0⟩
variable {R:CV→CV→Prop}
theorem eP (cl:List Nat)(u v:CV)(h:(r.close ob cl).norm= .tup [.c u,.c v])(hb:ob 0=some (.tab T))(h0:0∉cl)(hR:R u v):
  iH 1 r ob (fun r ob'=> ∃u v,r= .tup [.c u,.c v]∧ob'=fL T∧R u v):=
 ⟨cl,id,.tup [.c u,.c v],fL T,⟨u,v,rfl,rfl,hR⟩,by grind[HV.ren,HV.renL],fun _ _=>rfl,fun _ _ _ _ h=>h,by simp[HV.men,HV.menL],bO3 hb h0⟩
variable {nid:Nat}
theorem tR {id:Nat}(hid:ob id=some (.tab T))(hfree:ob nid=none∧ob (nid+1)=none∧ob (nid+2)=none∧ob (nid+3)=none):bY ob [id] nid (fL T)=ob:=by
 funext i;by_cases e:i=id
 · subst e;simp only[bY,List.findIdx?_cons,beq_self_eq_true,if_true,gD,Option.map_some,hid];rfl
 ·
  have e':(id==i)=false:=by simp;exact fun h=>e h.symm
  simp only[bY,List.findIdx?_cons,e',List.findIdx?_nil,Option.map_none];simp only[Bool.false_eq_true,if_false];split
  ·
   rename_i hr;have h1:[id].length+(i-nid)≠0:=by simp
   rw[gD,if_neg h1];grind
  · rfl
theorem zK {id:Nat}(hid:ob id=some (.tab T)): ∀j o,fL T j=some o→ob ([id].getD j 0)=some (o.ren (sub [id] nid)):=by grind[gD,HO.ren]
variable {args:List CV}{K:HV→Ob→Prop}{f:FuncId}{av:List Nat}{P:Program}
theorem jO {R:CV→Prop}(id:Nat)(h:mZ P f T args R)(hid:ob id=some (.tab T))(hav:id∉av)
  (hfree:ob nid=none∧ob (nid+1)=none∧ob (nid+2)=none∧ob (nid+3)=none) (hK: ∀v,R v→K (.c v) ob):HCall P av f (args.map .c) ob nid K:=by
 refine⟨[id],args.map .c,_,_,h,fR T args,⟨by simp,by grind⟩,(HV.renL_c _ _).symm,zK hid,fun r lob' hR _=>?_⟩;obtain⟨v,rfl,rfl,hR⟩:=hR;rw[tR hid hfree];exact hK v hR
theorem fM (id:Nat)(h:qP P f T args R)(hid:ob id=some (.tab T))(hav:id∉av)
  (hfree:ob nid=none∧ob (nid+1)=none∧ob (nid+2)=none∧ob (nid+3)=none) (hK: ∀u v,R u v→K (.tup [.c u,.c v]) ob):HCall P av f (args.map .c) ob nid K:=by
 refine⟨[id],args.map .c,_,_,h,fR T args,⟨by simp,by grind⟩,(HV.renL_c _ _).symm,zK hid,fun r lob' hR _=>?_⟩;obtain⟨u,v,rfl,rfl,hR⟩:=hR;rw[tR hid hfree];exact hK u v hR
theorem aT5 {g:Nat}{name:String}{k:IntKind}{zs:List Int}(hok:eE P f=true)(hg:P.globalNamed name=some g)(hT:(g,zs.map fun z=>Value.int k z)∈T){a b:Int}{s:List UInt8}
  (hc: ∀w:World,Lib.TabIs P w name k zs→Calls P f #[.int .i64 a,.int .i64 b] w fun e w'=>e= .returned (.string ⟨s.toArray⟩)∧ ∃n os,w'=grow (w.drewN n) os):
  mZ P f T [.int .i64 a,.int .i64 b] (fun v=>v= .str s):=by
 refine⟨qD hok,fun w ρ X xs hS hA hX=>Does.of hok ?_⟩;have h0:=hS.objs 0 _ (rfl:fL T 0=some (.tab T));have htab:Lib.TabIs P w name k zs:=by
  obtain⟨-,h1⟩:=h0;obtain⟨⟨t,fz,h2⟩,-⟩:=h1 _ hT;simp only[Lib.TabIs,World.var?,hg,Option.bind_some,h2]
 simp only[List.map_cons,List.map_nil,bP,RepHV]at hA;obtain⟨x,zs',rfl,hx,y,zs'',rfl,hy,rfl⟩:=hA;have h1:=RepV.single hx rfl;have h2:=RepV.single hy rfl;simp only[RepC,List.cons.injEq,and_true]at h1 h2;subst h1 h2;refine(hc w htab).mono ?_;rintro ex w' ⟨rfl,n,os,rfl⟩;have hs2:Stay2 w (Own ρ) (grow (w.drewN n) os) (Own ρ):=⟨fun c hc' _=>by grind[grow,World.drewN,Array.getElem?_append_left],fun _ h=> .inl h,by simp_all,rfl,rfl,rfl⟩;have hst:=hs2.stay X;refine⟨_,_,ρ,_,rfl,⟨_,rfl,rfl,rfl⟩,⟨?_,⟨fun i o ho=>?_,hS.none,hS.apart,hS.xb⟩,by simp[HV.men],fun i o ho=>?_,hs2,Moves.refl _ _⟩⟩
 · refine bS ?_ rfl rfl;simp[RepC]
 ·
  rw[gD]at ho;split at ho
  ·
   subst_vars
   cases ho;exact⟨h0.1,kT hst h0.2⟩
  · cases ho
 grind[gD,HO.men]
end Go.Hl
namespace Go.Hl
open Go Go.RowKit
section
variable {P:Program}{T:TypeId→Prop}{H:Type}{enc:TypeId×Value→H}
theorem bE4 {W:World}{args:Array Value}{f:FuncId}{fn:Func}{s:ChangeSpec}{mm:Nat}{tb:TypeId}{tabs:mY}(hok:eE P f=true)(K:Kids P T)(hz: ∀t e,T t→P.underlying t=some (.slice e)→0<P.cellsOf e)(hvars:s.vars=[])(hres:fn.resultTypes= #[tb])(htb:P.underlying tb=some .bool)
  (hspec: ∀(H:Type) (ds:List (DataW H)),ds.length=fn.params.toList.length→(s.fn H ds).results=[.lit (.bool true)]∧(s.fn H ds).args=ds∧(s.fn H ds).vars=[]) (hpl: ∀t∈fn.params.toList,lP P mm t=true∧T t)
  (hlaw: ∀cs:List CV,cs.length=fn.params.toList.length→(∀(j:Nat) t c,fn.params.toList[j]? =some t→cs[j]? =some c→HasTy P t c)→RepHV W (fun _=>none) (Owned (fun _=>none) (fun _=>False)) (cs.map .c) args.toList→mZ P f tabs cs (fun v=>v= .bool true))
  (htab: ∀x∈tabs,∃t fz,W.heap[x.1]? =some (.cells x.2.toArray t fz)) {ds gs:List (DataW H)} {before:List MemPlace} (hval: ∀(j:Nat) t v,fn.params[j]? =some t→args[j]? =some v→Value.okWide P W .any 0 t v)
  (hW:DataW.Whole enc P fn.params.toList s.vars false W args.toList ds gs before):
  Calls P f args W fun e W'=> ∃v,e= .returned v∧s.post enc P fn false true false false W args v W':=by
 have hW':=hW;obtain⟨p,q,hA,hV,rfl,hfz,hnd⟩:=hW;rw[hvars]at hV;obtain⟨rfl,rfl⟩:=ChangeShapes.trodVars_none hV;simp only[List.append_nil]at hW' hfz;obtain⟨cs,r1,r2,r3,r4⟩:=qO (m:=mm) K hA hpl (fun j t v h1 h2=>hval j t v (by grind) (by grind));obtain⟨_,hrun⟩:=hlaw cs r2 r4 r1;have hS:RepS W (fun _=>none) (fun _=>False) (fL tabs):=by
  refine⟨fun i o h=>?_,fun _ _=>rfl,fun _ _ _ _ _ h=>(by grind),fun _ _ _ h=>(by grind)⟩;rw[gD]at h;split at h
  ·
   cases h;refine⟨rfl,fun x hx=>⟨htab x hx,?_⟩⟩;rintro(h1|⟨i,L,h1,_⟩)
   · exact h1
   · cases h1
  · cases h
 have hcall:=hrun W (fun _=>none) (fun _=>False) args.toList hS r1 (fun _ h=>h.elim);rw[Array.toArray_toList]at hcall;refine(hcall.calls hok).mono ?_;rintro e W' ⟨r,ob',ρ',x,rfl,⟨v,rfl,rfl,rfl⟩,hg⟩;obtain⟨hr1,hr2⟩:=hg.v;have hx:x= .bool true:=by
  have hag:Value.isAgg' x=false:=by rw[←hr2];rfl
  rw[cells_single hag]at hr1;simpa[RepH,RepC]using hr1
 subst hx;have hheap: ∀b,b<W.heap.size→W'.heap[b]? =W.heap[b]? :=fun b hb=>hg.stay.block b hb (aL2 b);obtain⟨s1,s2,s3⟩:=hspec H (ds++[]) (by simpa using r3);have hlt: ∀a∈p,a.block<W.heap.size:=hA.lt;have args': ∀sp:Nat→Bool,(∀a∈p,sp a.block=true)→DataW.TrodAll enc P W' 0 sp true fn.params.toList args.toList ds p:=fun sp hsp=>
  oM (hA.respare K hz (fun t ht=>(hpl t ht).2) hsp) (fun a ha=>bE3 hheap (hlt a ha))
 have hrl:Value.resultList fn.resultTypes.size (.bool true)=[.bool true]:=by rw[hres];rfl
 have hresT: ∀(b:Nat) (sp:Nat→Bool) (hd:Bool),DataW.TrodAll enc P W' b sp hd fn.resultTypes.toList (Value.resultList fn.resultTypes.size (.bool true)) [.lit (.bool true)] []:=fun b sp hd=>by
  rw[hrl,hres];exact trodAll_cons_mk (RowKit.shut_bool htb true) ChangeShapes.trodAll_mk0
 refine⟨.bool true,rfl,ds,[],p,[],p,[],by simpa using hW',?_,?_,?_,?_,?_⟩
 · rw[s1];exact hresT _ _ _
 · rw[s2];simpa using args' _ (fun a ha=>by simpa using hlt a ha)
 · rw[s3,hvars];rfl
 · exact aT4 hg.stay.os hg.stay.output hheap _
 · intro h;cases h
theorem bE5 {f:FuncId}{fn:Func}{s:ChangeSpec}{mm:Nat}{tb:TypeId}{tabs:mY}(hok:eE P f=true)(K:Kids P T)(hz: ∀t e,T t→P.underlying t=some (.slice e)→0<P.cellsOf e)(hvars:s.vars=[])(hres:fn.resultTypes= #[tb])(htb:P.underlying tb=some .bool)
  (hspec: ∀(H:Type) (ds:List (DataW H)),ds.length=fn.params.toList.length→(s.fn H ds).results=[.lit (.bool true)]∧(s.fn H ds).args=ds∧(s.fn H ds).vars=[]) (hpl: ∀t∈fn.params.toList,lP P mm t=true∧T t)
  (hlaw: ∀cs:List CV,cs.length=fn.params.toList.length→(∀(j:Nat) t c,fn.params.toList[j]? =some t→cs[j]? =some c→HasTy P t c)→mZ P f tabs cs (fun v=>v= .bool true))
  {W:World} (htab: ∀x∈tabs,∃t fz,W.heap[x.1]? =some (.cells x.2.toArray t fz)) {args:Array Value} {ds gs:List (DataW H)} {before:List MemPlace} (hval: ∀(j:Nat) t v,fn.params[j]? =some t→args[j]? =some v→Value.okWide P W .any 0 t v)
  (hW:DataW.Whole enc P fn.params.toList s.vars false W args.toList ds gs before):
  Calls P f args W fun e W'=> ∃v,e= .returned v∧s.post enc P fn false true false false W args v W':=
 bE4 hok K hz hvars hres htb hspec hpl (fun cs h1 h2 _=>hlaw cs h1 h2) htab hval hW
end
theorem yH {P:Program}{W:World}{name:String}{k:IntKind}{zs:List Int}{g:Nat}(hg:P.globalNamed name=some g)(h:Lib.TabIs P W name k zs): ∃t fz,W.heap[g]? =some (.cells (zs.map fun z=>Value.int k z).toArray t fz):=by grind[Lib.TabIs,World.var?]
end Go.Hl
namespace Go.Hl
open Go
open Go.ChangeMaps (setBlock heap_setBlock_same heap_setBlock_other)
section
variable {P:Program}{n k:Nat}{ops:Array Oper}{nx i:Nat}{Kf:Fr→Ob→Prop}{fr:Fr}{ob:Ob}
def Lx (P:Program)(n k:Nat)(ops:Array Oper)(nx:Nat)(Kf:Fr→Ob→Prop)(i:Nat)(fr:Fr)(ob:Ob):Prop:=
 ∀(c:Ctx) (a:Act) (w:World) (Q:Exit→Act→World→Prop),c.n=n→c.M0=(· <k)→(∀fr' ob' a' w',Kf fr' ob'→RepA c (· <nx+4*ops.size) fr' ob' a' w'→Q .normal a' w')→RepA c (· <nx+4*i) fr ob a w→wpOpsIn c.F 0 P ops Q (List.range' i (ops.size-i)) a w
theorem aY2 {id:Nat}{Q:eV}(h:Lx P n k ops nx (fun fr' ob'=>Q .normal fr' ob' (nx+4*ops.size)) 0 fr ob):Hw P n k (.region id ops false) Q fr ob nx:=by
 intro c a w hn hk hz hA;refine wpIn_region ?_;rw[List.range_eq_range'];exact h c a w _ hn hk (fun fr' ob' a' w' hK hA'=>⟨fr',ob',_,hK,hA'⟩) hA
theorem wE (hi:i=ops.size)(h:Kf fr ob):Lx P n k ops nx Kf i fr ob:=by
 subst hi;intro c a w Q hn hk hQ hA;simp only[Nat.sub_self,List.range'_zero,wpOpsIn];exact hQ _ _ _ _ h hA
theorem aL3 {o:Oper}{g:Option (Nat×Bool)}(hd:gL n ops=true)(ho:ops[i]? =some o)(hg:gd ops o=some g)(h: ∀K:Fr→Ob→Prop,(∀fr ob,Lx P n k ops nx Kf (i+1) fr ob→K fr ob)→hop1 P (nx+4*i) [] g o.op o.dst K fr ob):Lx P n k ops nx Kf i fr ob:=by
 intro c a w Q hn hk hQ hA;have hi:i<ops.size:=(Array.getElem?_eq_some_iff.1 ho).1;rw[show ops.size-i=(ops.size-(i+1))+1 by omega,List.range'_succ,wpOpsIn_cons];have hI:=sC (fun _ _ x=>x) (kY ho hg (h _ (fun _ _ x=>x)));refine wpOpIn_mono (fun a' w' hx=>?_) (kF (Q:=Q) (M':=(· <nx+4*(i+1))) hA (fun t ht=>by omega) (fun i hi=>by omega) (fun t ht=>by omega) (by rw[hn];exact gJ hd) hI);obtain⟨fr',ob',hK,hA'⟩:=hx;exact hK c a' w' Q hn hk hQ hA'
theorem wF {o:Oper}(hd:gL n ops=true)(ho:ops[i]? =some o)(hg:o.guard=none)(hn0: ∀c,o.op≠ .defer c)
  (h: ∀(c:Ctx) (a:Act) (w:World) (ρ:Env),RepA' c (· <nx+4*i) fr ob a w ρ→(∀t,o.dst=some t→t<c.n)→ ∃y w' fr' ob',((execOp a.eval o).run P w= .ok (.value y) w'∨((execOp a.eval o).run P w= .ok .skip w'∧y=undef))∧Lx P n k ops nx Kf (i+1) fr' ob'∧RepA c (· <nx+4*(i+1)) fr' ob' (a.put o.dst y) w'):Lx P n k ops nx Kf i fr ob:=by
 intro c a w Q hn hk hQ hA;have hi:i<ops.size:=(Array.getElem?_eq_some_iff.1 ho).1;rw[show ops.size-i=(ops.size-(i+1))+1 by omega,List.range'_succ,wpOpsIn_cons];obtain⟨ρ,hA⟩:=hA;unfold wpOpIn;rw[ho];simp only;rw[if_pos (by unfold Region.wanted;rw[hg])];obtain⟨y,w',fr',ob',hrun,hL,hA'⟩:=h c a w ρ hA (fun t ht=>by rw[hn];exact gJ hd o (Array.mem_of_getElem? ho) t ht);refine⟨fun _ _=>trivial,?_⟩;rw[Oper.semAt_eq _ _ _ hn0];rcases hrun with hrun|⟨hrun,rfl⟩
 · rw[hrun];exact hL c _ w' Q hn hk hQ hA'
 · rw[hrun];exact hL c _ w' Q hn hk hQ hA'
section
variable {c:Ctx}{M:Nat→Prop}{a:Act}{w:World}{ρ:Env}
theorem cF2 (h:RepA' c M fr ob a w ρ){x:Operand}{id m:Nat}(hx:ev fr x= .ptr id 0){s q:Nat}{seen:Array Nat}(ho:ob id=some (.it m s seen q)){es:Array MapEntry}{ck:Nat}(hm:ob m=some (.raw es ck)):
  ∃b bm,ρ id=some (.blk b)∧a.eval x= .pointer (some ⟨b,0,none⟩)∧w.heap[b]? =some (.mapIter (some bm) s seen q)∧w.heap[bm]? =some (.map es ck)∧ρ m=some (.mp bm fun _=>none):=by
 obtain⟨y,he,h1,hp⟩:=bL3 h hx;obtain⟨b,x',h2,h3,h4⟩:=h.s.objs id _ ho;obtain⟨bm,h5,h6⟩:=h.s.objs m _ hm;have:=h4 _ _ h5;subst this;exact⟨b,x',h2,by grind,h3,h6,h5⟩
end
theorem aT6 {o:Oper}{t:TypeId}{d:Nat}(hd:gL n ops=true)(ho:ops[i]? =some o)(hg:o.guard=none)(hop:o.op= .makeMap t none)(hdst:o.dst=some d)
  (h:Lx P n k ops nx Kf (i+1) (upd fr d (.mapr (nx+4*i))) (upd ob (nx+4*i) (some (.raw (gI []) 0)))):Lx P n k ops nx Kf i fr ob:=by
 refine wF hd ho hg (by rw[hop];intro c hc;cases hc) fun c a w ρ hA hdd=>?_;have:=hA.newObj (d:=o.dst) (w1:=w) (obj:= .map #[] 0) (nid:=nx+4*i) (M':=(· <nx+4*(i+1))) (v:= .mapr (nx+4*i)) (x:= .map (some w.heap.size)) (L:= .mp w.heap.size (fun _=>none)) (o:= .raw (gI []) 0) (by omega) (fun j hj=>by omega) (by omega) rfl rfl rfl rfl ?_ (fun _=>?_) trivial (.inr ?_) (by simp only[HV.men];omega) hdd
 · simp only[hdst]at this⊢;exact⟨.map (some w.heap.size),w.alloc (.map #[] 0),_,_,.inl (by simp only[execOp,hop];rfl),h,⟨_,this⟩⟩
 ·
  rintro b (hb|⟨k,v,e1,e2⟩)
  · exact hb
  · cases e1
 · exact⟨_,aV _ _ _,heap_alloc_new w _⟩
 · refine cQ ?_ rfl rfl;simp only[RepH];refine⟨_,rfl,by simp[Value.oneCell'],fun b hf hρ=>?_⟩;rw[aV]at hρ;cases hρ;rfl
theorem bO4 {o:Oper}{t kt et:TypeId}{x:Operand}{d id:Nat}{es:Array MapEntry}{ck:Nat}(hd:gL n ops=true)(ho:ops[i]? =some o)(hg:o.guard=none)(hop:o.op= .range t x)(hdst:o.dst=some d)
  (hut:P.underlying t=some (.map kt et)) (hx:ev fr x= .mapr id) (hob:ob id=some (.raw es ck))
  (h:Lx P n k ops nx Kf (i+1) (upd fr d (.ptr (nx+4*i) 0)) (upd ob (nx+4*i) (some (.it id ck #[] ck)))):Lx P n k ops nx Kf i fr ob:=by
 refine wF hd ho hg (by rw[hop];intro c hc;cases hc) fun c a w ρ hA hdd=>?_;obtain⟨b,h1,h2,h3⟩:=aR2 hA hx hob;have hrun:(execOp a.eval o).run P w= .ok (.value (.pointer (some ⟨w.heap.size,0,none⟩))) (w.alloc (.mapIter (some b) ck #[] ck)):=by
  have e:(newObj (.mapIter (some b) ck #[] ck)).run P w= .ok w.heap.size (w.alloc (.mapIter (some b) ck #[] ck)):=rfl;simp[execOp,hop,h2,Instr.range,run_underlying hut,MapKept.run_getObj_map h3,Result.andThen,e]
 have hid:=(hA.mo id _ hob).1;have:=hA.newObj (d:=o.dst) (w1:=w) (obj:= .mapIter (some b) ck #[] ck) (nid:=nx+4*i) (M':=(· <nx+4*(i+1))) (v:= .ptr (nx+4*i) 0) (x:= .pointer (some ⟨w.heap.size,0,none⟩)) (L:= .blk w.heap.size) (o:= .it id ck #[] ck) (by omega) (fun j hj=>by omega) (by omega) rfl rfl rfl rfl ?_ (fun _=>?_) (by simp only[HO.men];omega) (.inr ?_) (by simp only[HV.men];omega) hdd
 · simp only[hdst]at this⊢;exact⟨_,_,_,_,.inl hrun,h,⟨_,this⟩⟩
 · rintro b hb;exact hb
 · refine⟨_,b,aV _ _ _,heap_alloc_new w _,fun bm hf hρ=>?_⟩;rw[bE _ _ (by omega),h1]at hρ;cases hρ;rfl
 · refine cQ ?_ rfl rfl;simp only[RepH];refine⟨_,rfl,by simp[Value.oneCell'],fun b hρ=>?_⟩;rw[aV]at hρ;cases hρ;rfl
theorem lA {o:Oper}{t kt et:TypeId}{m kx vx:Operand}{id:Nat}{l:List (Int×List UInt8)}{z:Int}{s:List UInt8}(hd:gL n ops=true)(ho:ops[i]? =some o)(hg:o.guard=none)(hop:o.op= .insert t m kx vx)(hdst:o.dst=none)
  (hut:P.underlying t=some (.map kt et)) (hkt:P.underlying kt=some (.int .i64)) (hm:ev fr m= .mapr id) (hob:ob id=some (.raw (gI l) l.length)) (hk:ev fr kx= .c (.int .i64 z)) (hv:ev fr vx= .c (.str s)) (hno:lkG l z=none)
  (h:Lx P n k ops nx Kf (i+1) fr (upd ob id (some (.raw (gI (l++[(z,s)])) (l.length+1))))):Lx P n k ops nx Kf i fr ob:=by
 refine wF hd ho hg (by rw[hop];intro c hc;cases hc) fun c a w ρ hA hdd=>?_;obtain⟨b,h1,h2,h3⟩:=aR2 hA hm hob;obtain⟨r,f1,f2⟩:=pA z 0 0 l;rw[hno]at f2;have hr:r=none:=by cases r with|none=>rfl|some x=>simp at f2
 subst hr;have hrun:(execOp a.eval o).run P w= .ok .skip (setBlock w b (.map (gI (l++[(z,s)])) (l.length+1))):=by
  have f3:Instr.findNow (.int .i64) (.int .i64 z) (gI l).toList 0=some none:=by simpa[gI]using f1
  simp[execOp,hop,h2,dI hA hk,kK hA hv,Instr.mapUpdate,run_underlying hut,MapKept.run_getObj_map h3,aR1 hkt,Instr.findKey,run_underlying hkt,f3,MapKept.run_setObj_map _ h3,Result.andThen,setBlock,bC4]
 have hid:=(hA.mo id _ hob).1;have:=hA.setObj (d:=none) (v:= .junk) (x:=undef) (w':=setBlock w b (.map (gI (l++[(z,s)])) (l.length+1))) (o:= .raw (gI (l++[(z,s)])) (l.length+1)) h1 (.inl rfl) hid (fun b' hb'=>heap_setBlock_other h3 _ hb') (by simp[setBlock]) rfl rfl rfl (fun _=>⟨b,h1,heap_setBlock_same h3 _⟩) trivial (fun _=> .inl rfl) (by simp[HV.men]) (fun t ht=>by cases ht);rw[hdst];exact⟨undef,_,_,_,.inr ⟨hrun,rfl⟩,h,⟨_,this.weaken (fun j hj=>by omega)⟩⟩
theorem bE6 {l:List (Int×List UInt8)}: ∀x∈(gI l).toList,x.born<l.length:=fun x hx=>by
 obtain⟨j,hj,rfl⟩:=aX2 0 l x (by simpa[gI]using hx);simpa using hj
theorem bY7 {w:World}{ρ:Env}{O:Nat→Prop}(z:Int)(s:List UInt8):RepV w ρ O (.tup [.c (.int .i64 z),.c (.str s)]) (.tuple #[.int .i64 z,.string ⟨s.toArray⟩]):=by
 refine⟨?_,rfl⟩;simp only[RepH];exact⟨[_,_],rfl,by simp only[RepHV];exact⟨_,_,rfl,bS (by simp[RepC]) rfl rfl,_,_,rfl,bS (by simp[RepC]) rfl rfl,rfl⟩⟩
theorem bY8 {o:Oper}{x:Operand}{d it id:Nat}{l:List (Int×List UInt8)}{seen:Array Nat}(hd:gL n ops=true)(ho:ops[i]? =some o)(hg:o.guard=none)(hop:o.op= .next x false)(hdst:o.dst=some d)
  (hx:ev fr x= .ptr it 0) (hit:ob it=some (.it id l.length seen l.length)) (hid:ob id=some (.raw (gI l) l.length))
  (hdone:(∀j,j<l.length→seen.contains j=true)→Lx P n k ops nx Kf (i+1) (upd fr d (.tup [.c (.bool false)])) ob)
  (hnext: ∀j (hj:j<l.length),seen.contains j=false→Lx P n k ops nx Kf (i+1) (upd fr d (.tup [.c (.bool true),.c (.int .i64 l[j].1),.c (.str l[j].2)])) (upd ob it (some (.it id l.length (seen.push j) l.length)))):Lx P n k ops nx Kf i fr ob:=by
 refine wF hd ho hg (by rw[hop];intro c hc;cases hc) fun c a w ρ hA hdd=>?_;obtain⟨b,bm,h1,h2,h3,h4,h5⟩:=cF2 hA hx hit hid;rcases run_next_at (P:=P) w o.type b bm l.length l.length seen (gI l) l.length h3 h4 bE6 (Nat.le_refl _)with⟨e1,hrun⟩|⟨e,he,w1,hw1,hrun⟩
 ·
  have hall: ∀j,j<l.length→seen.contains j=true:=fun j hj=>by
   have hin:=bL7 0 l j hj;cases hc:seen.contains j with
   |true=>rfl
   |false=>
    exfalso;have:(⟨.int .i64 l[j].1,.string ⟨l[j].2.toArray⟩,0+j⟩:MapEntry)∈leftOf (gI l) seen:=by
     unfold leftOf;rw[Array.mem_filter];exact⟨by simpa[gI]using hin,by simp only[Nat.zero_add,hc,Bool.not_false]⟩
    rw[Array.eq_empty_of_size_eq_zero e1]at this;simp at this
  have hv:RepV w ρ (Owned ρ c.X) (.tup [.c (.bool false)]) (.tuple #[.bool false]):=by
   refine⟨?_,rfl⟩;simp only[RepH];exact⟨[_],rfl,by simp only[RepHV];exact⟨_,_,rfl,bS (by simp[RepC]) rfl rfl,rfl⟩⟩
  have:=hA.value (d:=o.dst) (.inr hv) (by simp[HV.men,HV.menL]) hdd;rw[hdst]at this⊢;exact⟨_,_,_,_,.inl (by simp[execOp,hop,h2,hrun,Result.andThen]),hdone hall,⟨_,this.weaken (fun j hj=>by omega)⟩⟩
 ·
  have hmem:e∈esL 0 l∧seen.contains e.born=false:=by
   unfold leftOf at he;have:e∈Array.filter (fun e=>!seen.contains e.born) (gI l):=by simpa using he
   rw[Array.mem_filter]at this;exact⟨by simpa[gI]using this.1,by simpa using this.2⟩
  obtain⟨j,hj,rfl⟩:=aX2 0 l e hmem.1;have hc:seen.contains j=false:=by simpa using hmem.2
  have hw:w1.heap=w.heap∧w1.os=w.os∧w1.tape=w.tape∧w1.output=w.output:=by rcases hw1 with rfl|rfl<;>exact⟨rfl,rfl,rfl,rfl⟩
  obtain⟨w2,hw2⟩: ∃w2,w2=setBlock w1 b (.mapIter (some bm) l.length (seen.push j) l.length):=⟨_,rfl⟩;have hbl: ∀b',b'≠b→w2.heap[b']? =w.heap[b']? :=fun b' hb'=>by
   rw[hw2,setBlock,←hw.1];simp only;rw[Array.getElem?_setIfInBounds_ne (fun e=>hb' e.symm)]
  have hbs:w2.heap[b]? =some (.mapIter (some bm) l.length (seen.push j) l.length):=by
   rw[hw2,setBlock,hw.1];simp only;have:=(Array.getElem?_eq_some_iff.1 h3).1;rw[Array.getElem?_setIfInBounds_self];simp[this]
  have hm:=(hA.mo it _ hit).1;have hmi:HO.men (· <nx+4*i) (.it id l.length (seen.push j) l.length):=by have:=(hA.mo id _ hid).1;simpa[HO.men]using this
  have hv: ∀w':World,RepV w' ρ (Owned ρ c.X) (.tup [.c (.bool true),.c (.int .i64 l[j].1),.c (.str l[j].2)]) (.tuple #[.bool true,.int .i64 l[j].1,.string ⟨l[j].2.toArray⟩]):=fun w'=>by
   refine⟨?_,rfl⟩;simp only[RepH];exact⟨[_,_,_],rfl,by simp only[RepHV];exact⟨_,_,rfl,bS (by simp[RepC]) rfl rfl,_,_,rfl,bS (by simp[RepC]) rfl rfl,_,_,rfl,bS (by simp[RepC]) rfl rfl,rfl⟩⟩
  have:=hA.setObj (d:=o.dst) (v:= .tup [.c (.bool true),.c (.int .i64 l[j].1),.c (.str l[j].2)]) (x:= .tuple #[.bool true,.int .i64 l[j].1,.string ⟨l[j].2.toArray⟩]) (w':=w2) (o:= .it id l.length (seen.push j) l.length) h1 rfl hm hbl (by rw[hw2,setBlock,hw.1];simp) (by rw[hw2];exact hw.2.1) (by rw[hw2];exact hw.2.2.1) (by rw[hw2];exact hw.2.2.2) (fun _=>⟨b,bm,h1,hbs,fun bm' hf' hρ'=>by rw[h5]at hρ';cases hρ';rfl⟩) hmi (fun _=> .inr (hv w2)) (by simp[HV.men,HV.menL]) hdd;rw[hdst]at this⊢;rw[Nat.zero_add,←hw2]at hrun;exact⟨_,w2,_,_,.inl (by simp[execOp,hop,h2,hrun,Result.andThen]),hnext j hj hc,⟨_,this.weaken (fun j hj=>by omega)⟩⟩
theorem bO5 {o:Oper}{x:Operand}{d it id:Nat}{l:List (Int×List UInt8)}{seen:Array Nat}{j:Nat}(hj:j<l.length)(hd:gL n ops=true)(ho:ops[i]? =some o)(hg:o.guard=none)(hop:o.op= .entry x)(hdst:o.dst=some d)
  (hx:ev fr x= .ptr it 0) (hit:ob it=some (.it id l.length (seen.push j) l.length)) (hid:ob id=some (.raw (gI l) l.length))
  (h:Lx P n k ops nx Kf (i+1) (upd fr d (.tup [.c (.int .i64 l[j].1),.c (.str l[j].2)])) ob):Lx P n k ops nx Kf i fr ob:=by
 refine wF hd ho hg (by rw[hop];intro c hc;cases hc) fun c a w ρ hA hdd=>?_;obtain⟨b,bm,h1,h2,h3,h4,h5⟩:=cF2 hA hx hit hid;have hnd: ∀(b0:Nat) (l:List (Int×List UInt8)),((esL b0 l).map (·.born)).Nodup∧ ∀y∈(esL b0 l).map (·.born),b0≤y:=by
  intro b0 l;induction l generalizing b0 with
  |nil=>simp[esL]
  |cons y l ih=>
   obtain⟨i1,i2⟩:=ih (b0+1);refine⟨?_,?_⟩
   · simp only[esL,List.map_cons,List.nodup_cons];exact⟨fun hin=>by have:=i2 _ hin;omega,i1⟩
   ·
    simp only[esL,List.map_cons,List.mem_cons];rintro z (rfl|hz)
    · exact Nat.le_refl _
    · have:=i2 z hz;omega
 have hin:=bL7 0 l j hj;have hrun:=run_entry_at (P:=P) w b bm l.length seen (gI l) l.length ⟨.int .i64 l[j].1,.string ⟨l[j].2.toArray⟩,0+j⟩ (by simpa using h3) h4 (by simpa[gI]using hin) (by simpa[gI]using(hnd 0 l).1);have:=hA.value (d:=o.dst) (.inr (bY7 l[j].1 l[j].2)) (by simp[HV.men,HV.menL]) hdd;rw[hdst]at this⊢;exact⟨_,_,_,_,.inl (by simp[execOp,hop,h2,hrun,Result.andThen]),h,⟨_,this.weaken (fun j hj=>by omega)⟩⟩
end
end Go.Hl
namespace Go.Pl
open Go Go.Hl
def dV (c:UInt8):Bool:=decide ((33:Int)≤c.toNat)&&decide ((c.toNat:Int)≤125)&&((c.toNat:Int) !=37)
def pG (n:Nat):UInt8:=([48,49,50,51,52,53,54,55,56,57,65,66,67,68,69,70]:List UInt8).getD n 0
def mE (c:UInt8):List UInt8:=if dV c then [c]else [37,pG (c.toNat/16),pG (c.toNat%16)]
def dF (w:aH):aH:=w.flatMap mE
def lS (w:aH):aH:=if w=[]then [126]else dF w
def sizeW (w:aH):Nat:=max (dF w).length 1
@[simp] theorem cL3 :dF []=[]:=rfl
theorem bY9 (c:UInt8):(mE c).length≤3:=by grind[mE]
theorem bO6 (c:UInt8):1≤(mE c).length:=by grind[mE]
theorem wG (w:aH):(dF w).length≤3*w.length:=by
 induction w with
 |nil=>simp_all
 |cons c w ih=>
  grind[bY9,dF,List.length_append,List.length_cons]
theorem aL4 (w:aH):w.length≤(dF w).length:=by
 induction w with
 |nil=>grind
 |cons c w ih=>
  grind[bO6,dF,List.length_append,List.length_cons]
variable {i:Nat}
theorem wH {w:aH}(h:i<w.length):dF (w.take (i+1))=dF (w.take i)++mE w[i]:=by
 simp only[List.take_succ_eq_append_getElem h,dF,List.flatMap_append,List.flatMap_cons,List.flatMap_nil,List.append_nil]
theorem oN (w:aH)(i:Nat):(dF (w.take i)).length≤(dF w).length:=by
 have:dF w=dF (w.take i)++dF (w.drop i):=by simp[dF,←List.flatMap_append]
 grind
theorem wI (w:aH):(lS w).length=sizeW w:=by
 unfold lS sizeW;split
 · simp_all
 · rename_i h;have:=aL4 w;grind[List.length_pos_iff]
theorem eL (w:aH):sizeW w≤3*w.length+1:=by grind[wG,sizeW]
theorem bE7 (w:aH):1≤sizeW w:=by unfold sizeW;omega
theorem cQ0 (n:Nat):(if(1:Int)>(n:Int)then(1:Int)else(n:Int))=((max n 1:Nat):Int):=by split<;>omega
theorem cQ1 (c:UInt8):Int.fdiv (c.toNat:Int) (2^(min 4 IntKind.u8.bits))=((c.toNat/16:Nat):Int):=by
 rw[show min 4 IntKind.u8.bits=4 from rfl,Int.fdiv_eq_ediv_of_nonneg _ (by omega)];rfl
theorem cM6 (c:UInt8):IntKind.u8.wrap ((BitVec.ofInt IntKind.u8.bits (c.toNat:Int)&&&BitVec.ofInt IntKind.u8.bits 15).toNat:Int)=((c.toNat%16:Nat):Int):=by
 have h:=c.toNat_lt;have:(BitVec.ofInt IntKind.u8.bits (c.toNat:Int)&&&BitVec.ofInt IntKind.u8.bits 15).toNat=c.toNat%16:=by
  rw[BitVec.toNat_and];have e1:(BitVec.ofInt IntKind.u8.bits (c.toNat:Int)).toNat=c.toNat:=by simp[IntKind.bits]
  have e2:(BitVec.ofInt IntKind.u8.bits 15).toNat=15:=rfl;rw[e1,e2];exact Nat.and_two_pow_sub_one_eq_mod _ 4
 grind[IntWalk.u8_in]
theorem cM : ∀bs:List UInt8,CV.denilL (bs.map eI)=bs.map eI
 |[]=>rfl
 |b::bs=>by simp only[List.map_cons,CV.denilL,cM bs];rfl
def iY :List aH→aH
 |[]=>[]
 |w::l=>lS w++l.flatMap fun v=>32::lS v
theorem bE8 (l:List aH)(w:aH):iY (l++[w])=iY l++((if l=[]then []else [32])++lS w):=by
 cases l with
 |nil=>simp[iY]
 |cons a l=>simp[iY]
variable {l:List aH}
theorem bE9 (h:i<l.length):iY (l.take (i+1))=iY (l.take i)++((if i=0 then []else [32])++lS l[i]):=by grind[List.take_succ_eq_append_getElem,bE8,List.take_eq_nil_iff]
def aL5 (l:List aH):aH:=iY l++[10]
def iZ (ls:List (List aH)):aH:=ls.flatMap aL5
def fY (l:List aH):Nat:=(l.map fun w=>sizeW w+1).sum
def sumD (ls:List (List aH)):Nat:=(ls.map fY).sum
theorem aL6 : ∀(l:List aH),l≠[]→(iY l).length+1=fY l
 |[],h=>absurd rfl h
 |w::l,_=>by
  have: ∀l:List aH,(l.flatMap fun v=>32::lS v).length=fY l:=by
   intro l;induction l with
   |nil=>rfl
   |cons v l ih=>grind[List.length_append,List.length_cons,wI,fY]
  grind[iY,List.length_append,wI,fY]
theorem bO7 (h:l≠[]):(aL5 l).length=fY l:=by grind[aL5,List.length_append,aL6]
theorem bZ0 (l:List aH):(iY l).length≤fY l:=by
 cases l with
 |nil=>simp[iY]
 |cons w l=>grind[aL6]
theorem wJ : ∀{ls:List (List aH)},(∀l∈ls,l≠[])→(iZ ls).length=sumD ls
 |[],_=>rfl
 |l::ls,h=>by
  have ih:=wJ (ls:=ls) fun x hx=>h x (List.mem_cons_of_mem _ hx);grind[bO7,List.mem_cons_self,iZ,sumD,List.length_append]
variable {ls:List (List aH)}
theorem bF0 (h:i<ls.length):iZ (ls.take (i+1))=iZ (ls.take i)++aL5 ls[i]:=by
 simp only[List.take_succ_eq_append_getElem h,iZ,List.flatMap_append,List.flatMap_cons,List.flatMap_nil,List.append_nil]
theorem bF1 (h:i<l.length):fY (l.take (i+1))=fY (l.take i)+(sizeW l[i]+1):=by
 simp only[List.take_succ_eq_append_getElem h,fY,List.map_append,List.sum_append,List.map_cons,List.map_nil,List.sum_cons,List.sum_nil,Nat.add_zero]
theorem bF2 (h:i<ls.length):sumD (ls.take (i+1))=sumD (ls.take i)+fY ls[i]:=by
 simp only[List.take_succ_eq_append_getElem h,sumD,List.map_append,List.sum_append,List.map_cons,List.map_nil,List.sum_cons,List.sum_nil,Nat.add_zero]
@[simp] theorem cM7 :iZ []=[]:=rfl
@[simp] theorem cM8 :iY []=[]:=rfl
@[simp] theorem cM9 :fY []=0:=rfl
@[simp] theorem cN0 :sumD []=0:=rfl
theorem qQ (l:List aH)(i:Nat):fY (l.take i)≤fY l:=by grind[fY,List.take_append_drop]
theorem aE8 (l:List (List aH))(i:Nat):sumD (l.take i)≤sumD l:=by grind[sumD,List.take_append_drop]
def sL (l:List aH):Int:=
 if l.length=0 then 1 else if 120<l.length then 3 else if l.any (fun w=>decide (32768<w.length))then 3 else 0
def okL (l:List aH):Bool:=sL l==0
theorem kH (l:List aH):okL l=true↔l≠[]∧l.length≤120∧ ∀w∈l,w.length≤32768:=by
 unfold okL sL;constructor
 ·
  intro h;split at h
  · grind
  ·
   split at h
   · grind
   · grind
 grind
theorem aY3 (h:okL l=true):fY l≤11796720:=by
 obtain⟨-,h1,h2⟩:=(kH l).1 h;have key: ∀l:List aH,(∀w∈l,w.length≤32768)→fY l≤98306*l.length:=by
  intro l;induction l with
  |nil=>simp_all
  |cons w l ih=>
   grind[List.mem_cons_of_mem,List.mem_cons_self,eL,fY,List.length_cons]
 grind
theorem bZ1 (h: ∀l∈ls,okL l=true):sumD ls≤11796720*ls.length:=by
 induction ls with
 |nil=>simp_all
 |cons l ls ih=>
  grind[List.mem_cons_of_mem,aY3,List.mem_cons_self,sumD,List.length_cons]
def pH (ls:List (List aH)):Int:=
 if 1000<ls.length then 3 else match ls.find? (fun l=>!okL l)with
  |some l=>sL l
  |none=>if 262144<(iZ ls).length then 3 else 0
def uJ (ls:List (List aH)):aH:=if pH ls=0 then iZ ls else []
theorem bF3 (h:1000<ls.length):pH ls=3:=by unfold pH;grind
theorem bO8 (h:ls.length≤1000)(hi:i<ls.length)(h0: ∀l∈ls.take i,okL l=true)(h1:okL ls[i]=false):pH ls=sL ls[i]:=by
 unfold pH;rw[if_neg (by omega)];grind[okL,List.find?_eq_some_iff_append,List.getElem_cons_drop,List.take_append_drop]
theorem bZ2 (h:ls.length≤1000)(h0: ∀l∈ls,okL l=true):pH ls=if 262144<(iZ ls).length then 3 else 0:=by
 unfold pH;grind
theorem bZ3 (h:okL l=false):sL l≠0:=by grind[okL]
theorem wK (h:pH ls≠0):uJ ls=[]:=by unfold uJ;grind
theorem aY4 (h:pH ls=0):uJ ls=iZ ls:=by unfold uJ;grind
def mA (n:Nat):UInt8:=([48,49,50,51,52,53,54,55,56,57,97,98,99,100,101,102]:List UInt8).getD n 0
def bO9 (c:UInt8):List UInt8:=[mA (c.toNat/16),mA (c.toNat%16)]
def iA (bs:List UInt8):List UInt8:=bs.flatMap bO9
@[simp] theorem cN1 :iA []=[]:=rfl
theorem lB (bs:List UInt8):(iA bs).length=2*bs.length:=by
 induction bs with
 |nil=>rfl
 |cons c bs ih=>grind[iA,List.length_append,List.length_cons,bO9,List.length_nil]
theorem bF4 {bs:List UInt8}(h:i<bs.length):iA (bs.take (i+1))=iA (bs.take i)++bO9 bs[i]:=by
 simp only[List.take_succ_eq_append_getElem h,iA,List.flatMap_append,List.flatMap_cons,List.flatMap_nil,List.append_nil]
end Go.Pl
namespace Go.Hl
open Go Go.Pl
variable {fn:Func}{f:FuncId}{P:Program}
theorem zL {e:Array Value→Sem Value}{args:List CV}{R:CV→Prop}(hf:P.funcs[f]? =some fn)(hname:(fn.name== "runtime.NumGoroutine")=false)
  (hb:fn.body.isNone=true) (hn:Extern.findNext fn=none) (he:Extern.find fn=some e)
  (h: ∀(w:World) (ρ:Env) (O:Nat→Prop) (xs:List Value),RepHV w ρ O (args.map .c) xs→ ∃v x,R v∧RepV w ρ O (.c v) x∧(e xs.toArray).run P w= .ok x w):dB P f args R:=by
 refine⟨by grind[bC1],fun w ρ X xs hS hA hX=> .inr ⟨by grind[eE,Option.isNone_iff_eq_none],?_⟩⟩;obtain⟨v,x,hR,hv,hrun⟩:=h w ρ _ xs hA;refine⟨x,by simp_all[run_callFunc_extern],.c v,cX,ρ,x,rfl,⟨v,rfl,hR,rfl⟩,⟨hv,hS,by simp[HV.men],fun id o h=>by simp[cX]at h,Stay2.refl _ _,Moves.refl _ _⟩⟩
theorem aY5 {w:World}{O:Nat→Prop}: ∀{l:List UInt8} {xs:List Value},RepL w O (l.map u8) xs→xs=l.map fun b=> .int .u8 (b.toNat:Int)
 |[],xs,h=>by simpa[RepL]using h
 |b::l,xs,h=>by
  simp only[List.map_cons,RepL,u8,RepC]at h;obtain⟨c1,c2,rfl,rfl,h2⟩:=h;rw[aY5 h2];rfl
variable {x:Value}{l:List UInt8}{O:Nat→Prop}{ρ:Env}{w:World}
theorem sM (h:RepV w ρ O (.c (.slc (l.map u8))) x):(Extern.Bytes.bytesOf x).run P w= .ok ⟨l.toArray⟩ w:=by
 have h1:=h.single rfl;simp only[RepC,List.cons.injEq,and_true]at h1;obtain⟨a,cap,xs,sz,rfl,h2,_,h4,h5,h6⟩:=h1;have hx:=aY5 h2;cases a with
 |none=>
  have:=h5 rfl;have hl:l=[]:=by
   have:l.length=0:=by simp only[List.length_map]at h4;omega
   exact List.eq_nil_of_length_eq_zero this
  subst hl;simp only[Extern.Bytes.bytesOf,Sem.run_pure];rfl
 |some ad=>
  have hr:=(h6 ad rfl).1;have:=Go.Lib.run_loadBytesX (P:=P) w (l.map fun b=>(b.toNat:Int)) ad .empty (fun j y hj=>hr j _ (by
   rw[hx];rw[List.getElem?_map]at hj⊢;cases hb:l[j]? with
   |none=>rw[hb]at hj;cases hj
   |some b=>rw[hb]at hj;cases hj;rfl))
  simp only[List.length_map]at this;simp only[Extern.Bytes.bytesOf,List.length_map,this];congr 2;simp only[Go.Lib.bytesOf,List.map_map];have e:l.map ((fun n:Int=>n.toNat.toUInt8)∘fun b:UInt8=>(b.toNat:Int))=l:=by
   conv=>rhs;rw[←List.map_id l]
   exact List.map_congr_left fun b _=>by simp
  rw[e];simp
def jP (a b:List UInt8):Int:=if slt a b then-1 else if a==b then 0 else 1
def bP0 (a b:List UInt8):Int:=
 match(List.range (min a.length b.length)).find? fun i=>a.getD i 0 !=b.getD i 0 with
 |some i=>if a.getD i 0<b.getD i 0 then-1 else 1
 |none=>if a.length<b.length then-1 else if a.length>b.length then 1 else 0
theorem wL {p:Nat→Bool}(n:Nat):(List.range (n+1)).find? p=if p 0 then some 0 else((List.range n).find? fun i=>p (i+1)).map (· +1):=by
 rw[List.range_succ_eq_map,List.find?_cons,List.find?_map];split<;>simp_all[Function.comp];rfl
theorem aY6 : ∀a b:List UInt8,bP0 a b=jP a b
 |[],[]=>rfl
 |[],b::l=>by simp[bP0,jP,slt,Op.bytesLess]
 |a::l,[]=>by simp[bP0,jP,slt,Op.bytesLess]
 |a::l,b::m=>by
  have ih:=aY6 l m;have hmin:min (a::l).length (b::m).length=min l.length m.length+1:=by simp only[List.length_cons];omega
  unfold bP0 at ih⊢;rw[hmin,wL];by_cases hab:a=b
  · subst hab;simp only[List.getD_cons_zero,bne_self_eq_false,Bool.false_eq_true,if_false,List.getD_cons_succ];grind[jP,slt,Op.bytesLess,List.range,min]
  simp_all[List.getD_cons_zero,if_true,jP,slt,Op.bytesLess]
variable {y:Value}
theorem bZ4 {a b:List UInt8}(ha:RepV w ρ O (.c (.slc (a.map u8))) x)(hb:RepV w ρ O (.c (.slc (b.map u8))) y):
  (Extern.BytealgCompare.compare #[x,y]).run P w= .ok (.int .i64 (jP a b)) w:=by
 change (Sem.run P (do pure (goInt (Extern.BytealgCompare.cmp (←Extern.Bytes.bytesOf x) (←Extern.Bytes.bytesOf y)))) w)=_;simp only[Sem.run_bind,sM ha,sM hb,Result.andThen_ok,Sem.run_pure,goInt];rw[←aY6];grind[ByteArray.size,Go.Lib.get!_eq,Extern.BytealgCompare.cmp,bP0,List.find?]
def fS (l:List UInt8)(c:UInt8):Int:=match l.findIdx? (· ==c)with|some i=>(i:Int)|none=> -1
theorem aL7 {α:Type}{p:α→Bool}(d:α): ∀(l:List α),(List.range l.length).find? (fun i=>p (l.getD i d))=l.findIdx? p
 |[]=>rfl
 |a::l=>by
  rw[List.length_cons,wL,List.findIdx?_cons];simp only[List.getD_cons_zero,List.getD_cons_succ];rw[aL7 d l]
variable {c:UInt8}
theorem aY7 (hx:(Extern.Bytes.bytesOf x).run P w= .ok ⟨l.toArray⟩ w)(hy:(Extern.Bytes.asByte y).run P w= .ok c w):
  (Extern.BytealgIndexByte.indexByte #[x,y]).run P w= .ok (.int .i64 (fS l c)) w:=by
 change (Sem.run P (do
  let b←Extern.Bytes.bytesOf x
  let c←Extern.Bytes.asByte y
  match(List.range b.size).find? fun i=>b[i]! ==c with
  |some i=>pure (goInt i)
  |none=>pure (goInt (-1))) w)=_
 simp only[Sem.run_bind,hx,hy,Result.andThen_ok];have h1:(⟨l.toArray⟩:ByteArray).size=l.length:=by simp[ByteArray.size]
 have h2: ∀i:Nat,(⟨l.toArray⟩:ByteArray)[i]! =l.getD i 0:=fun i=>by exact Go.Lib.get!_eq l i
 simp only[h1,h2,aL7 (p:=fun b=>b==c)];unfold fS;cases l.findIdx? fun b=>b==c<;>rfl
theorem wM (h:RepV w ρ O (.c (u8 c)) y):(Extern.Bytes.asByte y).run P w= .ok c w:=by
 have h1:=h.single rfl;simp_all[u8,RepC,List.cons.injEq,and_true,Extern.Bytes.asByte]
theorem cH7 (hf:P.funcs[f]? =some fn)(hname:(fn.name== "runtime.NumGoroutine")=false)(hb:fn.body.isNone=true)(hn:Extern.findNext fn=none)
  (he:Extern.find fn=some Extern.BytealgIndexByte.indexByte) (l:List UInt8) (c:UInt8):dB P f [.slc (l.map u8),u8 c] (fun v=>v= .int .i64 (fS l c)):=
 zL hf hname hb hn he fun w ρ O xs h=>by
  simp only[List.map_cons,List.map_nil,bP,RepHV]at h;obtain⟨x,l1,rfl,hx,y,l2,rfl,hy,rfl⟩:=h;exact⟨_,_,rfl,eB _ _ _ _ _,aY7 (sM hx) (wM hy)⟩
theorem bZ5 (hf:P.funcs[f]? =some fn)(hname:(fn.name== "runtime.NumGoroutine")=false)(hb:fn.body.isNone=true)(hn:Extern.findNext fn=none)
  (he:Extern.find fn=some Extern.BytealgIndexByte.indexByte) (l:List UInt8) (c:UInt8):dB P f [.str l,u8 c] (fun v=>v= .int .i64 (fS l c)):=
 zL hf hname hb hn he fun w ρ O xs h=>by
  simp only[List.map_cons,List.map_nil,bP,RepHV]at h;obtain⟨x,l1,rfl,hx,y,l2,rfl,hy,rfl⟩:=h;have hx':(Extern.Bytes.bytesOf x).run P w= .ok ⟨l.toArray⟩ w:=by
   have h1:=hx.single rfl;simp only[RepC,List.cons.injEq,and_true]at h1;subst h1;rfl
  exact⟨_,_,rfl,eB _ _ _ _ _,aY7 hx' (wM hy)⟩
end Go.Hl
namespace Go.Pl
open Go Go.Hl
def bJ (c:UInt8):List UInt8→List (List UInt8)
 |[]=>[[]]
 |b::l=>if b=c then []::bJ c l else match bJ c l with
  |x::xs=>(b::x)::xs
  |[]=>[[b]]
theorem gM (c:UInt8)(l:List UInt8):bJ c l≠[]:=by
 cases l with
 |nil=>simp[bJ]
 |cons b l=>grind[bJ]
theorem pI (c:UInt8): ∀l:List UInt8,match l.findIdx? (· ==c)with
  |some i=>i<l.length∧bJ c l=l.take i::bJ c (l.drop (i+1))
  |none=>bJ c l=[l]
 |[]=>rfl
 |b::l=>by
  have ih:=pI c l;rw[List.findIdx?_cons];by_cases h:b=c
  · grind[bJ]
  ·
   have hb:(b==c)=false:=by simpa using h
   simp only[hb,Bool.false_eq_true,if_false];cases hf:l.findIdx? (· ==c)with
   |none=>
    simp_all[Option.map_none,bJ,if_neg]
   |some i=>
    simp_all[Option.map_some,bJ,if_neg,List.length_cons,List.take_succ_cons,List.drop_succ_cons,trivial]
variable {c:UInt8}
theorem qR {l:List UInt8}(h:fS l c<0):bJ c l=[l]:=by
 have:=pI c l;grind[fS]
theorem iK {l:List UInt8}(h: ¬fS l c<0): ∃i:Nat,fS l c=(i:Int)∧i<l.length∧bJ c l=l.take i::bJ c (l.drop (i+1)):=by
 have:=pI c l;unfold fS at h⊢;grind
theorem kR (c:UInt8): ∀l:List UInt8,(bJ c l).length≤l.length+1
 |[]=>by simp[bJ]
 |b::l=>by
  have ih:=kR c l;grind[bJ,List.length_cons]
theorem wN (c:UInt8): ∀(l:List UInt8),∀p∈bJ c l,p.length≤l.length
 |[],p,hp=>by grind[bJ]
 |b::l,p,hp=>by
  have ih:=wN c l;unfold bJ at hp;split at hp
  · grind
  ·
   split at hp
   · grind
   grind
def valH (c:UInt8):Nat:=if 48≤c.toNat∧c.toNat≤57 then c.toNat-48 else if 65≤c.toNat∧c.toNat≤70 then c.toNat-55 else 16
def byteH (x y:UInt8):UInt8:=UInt8.ofNat (16*valH x+valH y)
def okH (x y:UInt8):Bool:=decide (valH x<16)&&decide (valH y<16)&&!dV (byteH x y)
def unB :List UInt8→Option aH
 |[]=>some []
 |c::l=>if dV c then(unB l).map (c::·)else if c=37 then match l with
   |x::y::l'=>if okH x y then(unB l').map (byteH x y::·)else none
   |_=>none
  else none
def unW (s:aH):Option aH:=if s=[126]then some []else if s=[]then none else unB s
variable {l:aH}
theorem zM {c:UInt8}(h:dV c=true):unB (c::l)=(unB l).map (c::·):=by
 rw[unB.eq_def];grind
theorem bZ6 {c:UInt8}(h:dV c=false)(h1:c≠37∨l.length<2):unB (c::l)=none:=by
 rw[unB.eq_def];grind
theorem aY8 {x y:UInt8}(h:okH x y=true):unB (37::x::y::l)=(unB l).map (byteH x y::·):=by
 rw[unB.eq_def];simp_all[dV,Bool.false_eq_true,if_false,if_true]
theorem aL8 {x y:UInt8}(h:okH x y=false):unB (37::x::y::l)=none:=by simp_all[unB.eq_def,dV,Bool.false_eq_true,if_false,if_true]
def bZ7 :List UInt8:=[48,49,50,51,52,53,54,55,56,57,65,66,67,68,69,70]
set_option maxRecDepth 20000 in
theorem qS (c:UInt8):fS bZ7 c=if valH c<16 then(valH c:Int)else-1:=by
 have h: ∀n:Fin 256,fS bZ7 (UInt8.ofNat n.1)=if valH (UInt8.ofNat n.1)<16 then(valH (UInt8.ofNat n.1):Int)else-1:=by decide
 have:=h ⟨c.toNat,c.toNat_lt⟩;simp_all
theorem bF5 {x y:UInt8}(hx:valH x<16)(hy:valH y<16):(byteH x y).toNat=16*valH x+valH y:=by grind[byteH,UInt8.toNat_ofNat']
def UnSt (s:aH)(i:Nat)(out:aH):Prop:=i≤s.length∧unB s=(unB (s.drop i)).map (out++·)∧(out=[]→i=0)∧out.length≤i
section
variable {s:aH}{i:Nat}{out:aH}
theorem UnSt.init (s:aH):UnSt s 0 []:=⟨Nat.zero_le _,by simp,fun _=>rfl,Nat.le_refl _⟩
theorem UnSt.plain (h:UnSt s i out)(hi:i<s.length)(hp:dV s[i]=true):UnSt s (i+1) (out++[s[i]]):=by
 obtain⟨_,h2,_,h4⟩:=h;refine⟨hi,?_,by simp,by grind⟩;rw[h2,List.drop_eq_getElem_cons hi,zM hp,Option.map_map];congr 1;grind
theorem UnSt.bad1 (h:UnSt s i out)(hi:i<s.length)(hp:dV s[i]=false)(h1:s[i]≠37∨s.length≤i+2):unB s=none:=by
 rw[h.2.1,List.drop_eq_getElem_cons hi,bZ6 hp (h1.imp id fun h=>by grind)];rfl
theorem cF3 {s:aH}{i:Nat}(hi:i+2<s.length):s.drop i=s[i]::s[i+1]::s[i+2]::s.drop (i+3):=by
 rw[List.drop_eq_getElem_cons (show i<s.length by omega),List.drop_eq_getElem_cons (show i+1<s.length by omega),List.drop_eq_getElem_cons hi]
theorem UnSt.esc (h:UnSt s i out)(hi:i+2<s.length)(h37:s[i]=37)(hok:okH s[i+1] s[i+2]=true):UnSt s (i+3) (out++[byteH s[i+1] s[i+2]]):=by
 obtain⟨_,h2,_,h4⟩:=h;refine⟨hi,?_,by simp,by simp;omega⟩;rw[h2,cF3 hi,h37,aY8 hok,Option.map_map];congr 1;funext l;simp
theorem UnSt.bad2 (h:UnSt s i out)(hi:i+2<s.length)(h37:s[i]=37)(hok:okH s[i+1] s[i+2]=false):unB s=none:=by
 rw[h.2.1,cF3 hi,h37,aL8 hok];rfl
theorem nA (h:unB s=none)(h1:s≠[126]):unW s=none:=by simp_all[unW,if_neg]
theorem UnSt.fin (h:UnSt s i out)(hi:i=s.length)(h1:s≠[126]):unW s=if out=[]then none else some out:=by
 subst hi;obtain⟨_,h2,h3,h4⟩:=h;rw[List.drop_length]at h2;unfold unW;rw[if_neg h1];by_cases ho:out=[]
 · grind
 ·
  have hs:s≠[]:=by
   rintro rfl;simp only[List.length_nil,Nat.le_zero]at h4;exact ho (List.eq_nil_of_length_eq_zero h4)
  simp_all[if_neg,unB]
end
def CutR (l:List UInt8)(c:UInt8)(li re:List UInt8)(fd:Bool):Prop:=
 (fd=false∧fS l c<0∧li=l∧re=[])∨(fd=true∧ ∃i:Nat,fS l c=(i:Int)∧i<l.length∧li=l.take i∧re=l.drop (i+1))
def unL (r:aH):Option (List aH):=(bJ 32 r).mapM unW
def unR (r:aH):Option (List aH):=match unL r with|some ws=>if okL ws then some ws else none|none=>none
def iB (b:aH):Option (List (List aH)):=
 if b=[]then some []else if(bJ 10 b).getLast (gM 10 b)=[]then(bJ 10 b).dropLast.mapM unR else none
variable {li re:aH}
theorem aL9 (hc:CutR l 10 li re true):iB l=(unR li).bind fun ws=>(iB re).map (ws::·):=by
 rcases hc with⟨h,_⟩|⟨_,i,h1,h2,rfl,rfl⟩
 · cases h
 ·
  obtain⟨i',h3,_,hsp⟩:=iK (l:=l) (c:=10) (by omega);have:i'=i:=by omega
  subst this;have hne:l≠[]:=by rintro rfl;simp at h2
  have hd:iB l=if(bJ 10 (l.drop (i'+1))).getLast (gM 10 _)=[]then(l.take i'::(bJ 10 (l.drop (i'+1))).dropLast).mapM unR else none:=by
   unfold iB;rw[if_neg hne];simp only[hsp];grind[List.getLast_cons,gM,List.dropLast_cons_of_ne_nil]
  rw[hd];have he:iB (l.drop (i'+1))=if(bJ 10 (l.drop (i'+1))).getLast (gM 10 _)=[]then(bJ 10 (l.drop (i'+1))).dropLast.mapM unR else none:=by
   unfold iB;split
   · rename_i h;rw[h];rfl
   · rfl
  rw[he];split
  ·
   rw[List.mapM_cons];cases unR (l.take i')with
   |none=>rfl
   |some ws=>cases(bJ 10 (l.drop (i'+1))).dropLast.mapM unR<;>rfl
  simp_all
theorem wO (hc:CutR l 10 li re false)(hne:l≠[]):iB l=none:=by
 rcases hc with⟨_,h,_⟩|⟨h,_⟩
 all_goals simp_all[iB,if_neg,qR,List.getLast_singleton]
variable {fd:Bool}
theorem bP1 (hc:CutR l 10 li re fd)(hne:l≠[])(h:unR li=none):iB l=none:=by
 cases fd with
 |false=>exact wO hc hne
 |true=>rw[aL9 hc,h];rfl
theorem CutR.lt (hc:CutR l c li re fd)(hne:l≠[]):re.length<l.length∧li.length≤l.length:=by
 have:0<l.length:=List.length_pos_iff.2 hne;rcases hc with⟨_,_,rfl,rfl⟩|⟨_,i,_,h,rfl,rfl⟩
 all_goals grind
def wsT (r:aH)(i:Nat):List aH:=((bJ 32 r).take i).map fun p=>(unW p).getD []
def bP2 (r:aH)(i:Nat):Prop:= ∀p∈(bJ 32 r).take i,(unW p).isSome=true
variable {i:Nat}{r:aH}
theorem bP3 (h:i<(bJ 32 r).length):wsT r (i+1)=wsT r i++[(unW (bJ 32 r)[i]).getD []]:=by
 simp only[wsT,List.take_succ_eq_append_getElem h,List.map_append,List.map_cons,List.map_nil]
theorem wP (h:i≤(bJ 32 r).length):(wsT r i).length=i:=by grind[wsT,List.length_map,List.length_take]
theorem bF6 (h:i<(bJ 32 r).length)(h1:bP2 r i)(h2:(unW (bJ 32 r)[i]).isSome=true):bP2 r (i+1):=by
 intro p hp;rw[List.take_succ_eq_append_getElem h,List.mem_append,List.mem_singleton]at hp;rcases hp with hp|rfl
 · exact h1 p hp
 · exact h2
theorem zN {α β:Type}{f:α→Option β}: ∀{l:List α} {x:α},x∈l→f x=none→l.mapM f=none
 |a::l,x,hx,h=>by
  rw[List.mapM_cons];rcases List.mem_cons.1 hx with rfl|hx
  · grind
  · rw[zN hx h];simp_all
theorem aM0 {α β:Type}{f:α→Option β}(d:β): ∀{l:List α},(∀x∈l,(f x).isSome=true)→l.mapM f=some (l.map fun x=>(f x).getD d)
 |[],_=>rfl
 |a::l,h=>by
  rw[List.mapM_cons,aM0 d fun x hx=>h x (List.mem_cons_of_mem _ hx)];grind[Option.isSome_iff_exists,List.mem_cons_self]
theorem bP4 (h:i<(bJ 32 r).length)(h2:(unW (bJ 32 r)[i]).isSome=false):unR r=none:=by
 unfold unR unL;rw[zN (List.getElem_mem h) (by simpa using h2)]
theorem bZ8 (h:bP2 r (bJ 32 r).length):unR r=if okL (wsT r (bJ 32 r).length)then some (wsT r (bJ 32 r).length)else none:=by
 unfold bP2 at h;rw[List.take_length]at h;unfold unR unL;rw[aM0 [] h];simp only[wsT,List.take_length]
def DecSt (b rest:aH)(ls:List (List aH)):Prop:=iB b=(iB rest).map (ls++·)∧rest.length≤b.length∧ls.length+rest.length≤b.length
theorem DecSt.init (b:aH):DecSt b b []:=⟨by simp,Nat.le_refl _,by simp⟩
variable {ls:List (List aH)}{b rest:aH}
theorem DecSt.bad (h:DecSt b rest ls)(hc:CutR rest 10 li re fd)(hne:rest≠[])(hb:unR li=none):iB b=none:=by
 rw[h.1,bP1 hc hne hb];rfl
theorem DecSt.bad0 (h:DecSt b rest ls)(hc:CutR rest 10 li re false)(hne:rest≠[]):iB b=none:=by
 rw[h.1,wO hc hne];rfl
theorem DecSt.next (h:DecSt b rest ls)(hc:CutR rest 10 li re true)(hne:rest≠[]){ws:List aH}(hb:unR li=some ws):DecSt b re (ls++[ws]):=by
 have hl:=hc.lt hne;obtain⟨h1,h2,h3⟩:=h;refine⟨?_,by omega,by grind⟩;rw[h1,aL9 hc,hb];cases iB re with
 |none=>rfl
 |some l=>simp
theorem DecSt.fin (h:DecSt b [] ls):iB b=some ls:=by
 rw[h.1];simp[iB]
def jY (b:aH):Int:=if 262144<b.length then 3 else match iB b with|some ls=>if 1000<ls.length then 2 else 0|none=>2
def lT (b:aH):List (List aH):=if jY b=0 then(iB b).getD []else []
structure Pt where
 k:Nat
 c:UInt8
def Pt.cv (x:Pt):CV:= .agg [.int .i64 x.k,.int .u8 x.c.toNat]
theorem Pt.cells (x:Pt):x.cv.cells=2:=by simp[Pt.cv,CV.cells,CV.cellsL]
theorem Pt.denil (x:Pt):x.cv.denil=x.cv:=by simp only[Pt.cv,CV.denil,CV.denilL]
theorem Pt.isAgg (x:Pt):x.cv.isAgg=true:=rfl
theorem Pt.getAll (x:Pt):CV.getAt 0 2 true x.cv=some x.cv:=by
 have:=Pt.cells x;simp_all[Pt.cv,CV.cells,CV.getAt,and_self,if_true]
theorem Pt.setAll (x:Pt)(y:HV):CV.setAt 0 2 y x.cv=some y:=by
 have:=Pt.cells x;simp_all[Pt.cv,CV.cells,CV.setAt,and_self,if_true]
theorem Pt.fold (k:Nat)(c:UInt8):CV.agg [.int .i64 k,.int .u8 c.toNat]=Pt.cv ⟨k,c⟩:=rfl
theorem Pt.get_k (x:Pt):CV.getAt 0 1 false x.cv=some (.int .i64 x.k):=by simp[Pt.cv,CV.getAt,CV.getAtL,CV.cells,CV.cellsL]
theorem Pt.get_c (x:Pt):CV.getAt 1 1 false x.cv=some (.int .u8 x.c.toNat):=by simp[Pt.cv,CV.getAt,CV.getAtL,CV.cells,CV.cellsL]
def patP :aH→Option (List Pt)
 |[]=>some []
 |c::l=>if c=0 then none
  else if c=92 then match l with
   |[]=>none
   |d::r=>if d=0 then none else(patP r).map (⟨0,d⟩::·)
  else if c=63 then(patP l).map (⟨1,0⟩::·)
  else if c=42 then match l with
   |[]=>some [⟨2,0⟩]
   |d::r=>if d=42 then(patP r).map (⟨3,0⟩::·)else(patP (d::r)).map (⟨2,0⟩::·)
  else(patP l).map (⟨0,c⟩::·)
def aT7 (p:aH):Option (List Pt):=if p.length<1∨200<p.length then none else patP p
def PatSt (p:aH)(i:Nat)(out:List Pt):Prop:=i≤p.length∧patP p=(patP (p.drop i)).map (out++·)∧out.length≤i∧ ∀x∈out,x.k≤3
theorem PatSt.init (p:aH):PatSt p 0 []:=⟨by omega,by simp,by simp,by simp⟩
section
variable {p:aH}{i:Nat}{out:List Pt}
theorem PatSt.fin (h:PatSt p i out)(hi:i=p.length):patP p=some out:=by
 rw[h.2.1,hi,List.drop_length,patP.eq_def];simp
theorem PatSt.step (h:PatSt p i out){k:Nat}{x:Pt}(hk:i+k≤p.length)(h0:1≤k)(hx:x.k≤3)(he:patP (p.drop i)=(patP (p.drop (i+k))).map (x::·)):PatSt p (i+k) (out++[x]):=by
 refine⟨hk,?_,by have:=h.2.2.1;grind,fun y hy=>?_⟩
 · rw[h.2.1,he,Option.map_map];congr 1;grind
 ·
  rcases List.mem_append.1 hy with hy|hy
  · exact h.2.2.2 y hy
  grind
theorem PatSt.bad (h:PatSt p i out)(he:patP (p.drop i)=none):patP p=none:=by rw[h.2.1,he];rfl
end
end Go.Pl
