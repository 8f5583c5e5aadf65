/- Plain Lean: paths and patterns (chapter 3). By an AI agent. -/
import Derived.Test.YthedbjfipmkpiaaGreatDoorPl18e
import Derived.WalkKit
import Derived.ProofKit
import Derived.OpenShut
import Derived.ReadAgain
import Derived.ChangeBears
import Derived.Test.YthedbjfipmkpiaaGreatDoorHdSb
import Derived.Sort.Grow
import Derived.Sort.EncStr
import Derived.Lib.LaidTab
import Derived.Deep.Draws
import Derived.LaidSub
import Derived.Test.YthedbjfipmkpiaaGreatDoorHlEs
import Derived.Maps.RangeRun
import Derived.Test.YthedbjfipmkpiaaGreatDoorHlK
import Derived.Laws.Externs
import Derived.Lib.BytesEntry
import Derived.Test.YthedbjfipmkpiaaGreatDoorPl31
set_option linter.unusedSimpArgs false
set_option linter.unusedVariables false
set_option linter.defProp false
namespace Go.Hl
open Go
inductive HasTy (P:Program):TypeId→CV→Prop where
 |bool {t:TypeId} (hu:P.underlying t=some .bool) (b:Bool):HasTy P t (.bool b)
 |int {t:TypeId} {k:IntKind} (hu:P.underlying t=some (.int k)) {n:Int} (hw:(Lit.int k n).wf=true):HasTy P t (.int k n)
 |str {t:TypeId} (hu:P.underlying t=some .string) {s:List UInt8} (hs:s.length≤maxLen):HasTy P t (.str s)
 |slc {t e:TypeId} (hu:P.underlying t=some (.slice e)) {l:List CV} (hl: ∀x∈l,HasTy P e x) (hn:l.length≤maxLen):HasTy P t (.slc l)
 |arr {t e:TypeId} {m:Nat} (hu:P.underlying t=some (.array m e)) {l:List CV} (hl: ∀x∈l,HasTy P e x) (hn:l.length=m):HasTy P t (.agg l)
 |struct {t:TypeId} {fs:Array Field} (hu:P.underlying t=some (.struct fs)) {l:List CV} (hn:l.length=fs.size) (hl: ∀(i:Nat) (f:Field) (x:CV),fs.toList[i]? =some f→l[i]? =some x→HasTy P f.type x):HasTy P t (.agg l)
variable {c:CV}{t:TypeId}{P:Program}
theorem HasTy.of_int {k:IntKind}(hu:P.underlying t=some (.int k))(h:HasTy P t c): ∃n,c= .int k n∧(Lit.int k n).wf=true:=by
 cases h with
 |int h2 hw=>grind
 |bool h2|str h2|slc h2|arr h2|struct h2=>rw[hu]at h2;cases h2
theorem HasTy.of_slc {e:TypeId}(hu:P.underlying t=some (.slice e))(h:HasTy P t c): ∃l,c= .slc l∧(∀x∈l,HasTy P e x)∧l.length≤maxLen:=by
 cases h with
 |slc h2 hl hn=>grind
 |int h2|bool h2|str h2|arr h2|struct h2=>rw[hu]at h2;cases h2
def lV (P:Program):Nat→TypeId→Bool
 |0,_=>false
 |n+1,t=>match P.underlying t with
  |some .bool|some (.int _)|some .string=>true
  |some (.slice e)=>lV P n e
  |some (.array _ e)=>lV P n e
  |some (.struct fs)=>fs.toList.all fun f=>lV P n f.type
  |_=>false
theorem lW {α:Type}{w:World}{O:Nat→Prop}{g:α→List Value}{R:α→CV→Prop}: ∀(l:List α),(∀a∈l,∃c,RepC w O c (g a)∧R a c)→
  ∃cl:List CV,RepL w O cl (l.flatMap g)∧cl.length=l.length∧ ∀(i:Nat) a c,l[i]? =some a→cl[i]? =some c→R a c
 |[],_=>⟨[],by simp[RepL],rfl,by simp⟩
 |a::l,h=>by
  obtain⟨c,h1,h2⟩:=h a (by simp);obtain⟨cl,h3,h4,h5⟩:=lW l (fun x hx=>h x (by grind));refine⟨c::cl,by simp only[List.flatMap_cons,RepL];grind,by grind,fun i x y hx hy=>?_⟩;grind
theorem wD {cw:Field→Nat}{cs:List Value}: ∀(fs:List Field) (k:Nat),(∀(j:Nat) f,fs[j]? =some f→f.offset=k+((fs.take j).map cw).sum)→
  fs.flatMap (fun f=>(cs.drop f.offset).take (cw f))=(cs.drop k).take ((fs.map cw).sum)
 |[],k,_=>by simp
 |f::fs,k,h=>by
  have h0:=h 0 f rfl;simp only[List.take_zero,List.map_nil,List.sum_nil,Nat.add_zero]at h0;have ih:=wD (cw:=cw) (cs:=cs) fs (k+cw f) (fun j g hg=>by
   have:=h (j+1) g (by grind);grind)
  grind[List.drop_drop]
theorem wE {cs:List Value}(c:Nat): ∀(m:Nat),(List.range m).flatMap (fun i=>(cs.drop (i*c)).take c)=cs.take (m*c)
 |0=>by simp
 |m+1=>by
  rw[List.range_succ,List.flatMap_append,wE c m];simp_all[List.flatMap_cons,List.flatMap_nil,List.append_nil,List.take_add,Nat.succ_mul]
theorem wF {w:World}{a:Addr}{c:Nat}{g:Nat→List Value}: ∀(m:Nat),(∀i,i<m→(g i).length=c∧ ∀r,r<c→w.cell? ((a.add (i*c)).add r)=(g i)[r]?)→
  ((List.range m).flatMap g).length=m*c∧ ∀j u,((List.range m).flatMap g)[j]? =some u→w.cell? (a.add j)=some u
 |0,_=>by simp
 |m+1,h=>by
  obtain⟨h1,h2⟩:=wF m (fun i hi=>h i (by omega));obtain⟨h3,h4⟩:=h m (by omega);rw[List.range_succ,List.flatMap_append];simp only[List.flatMap_cons,List.flatMap_nil,List.append_nil];refine⟨by rw[List.length_append,h1,h3,Nat.succ_mul],fun j u hj=>?_⟩;grind[List.getElem?_append_left,List.getElem?_append_right,List.getElem?_eq_some_iff,Addr.add_add]
section
variable {H:Type}{enc:TypeId×Value→H}{P:Program}{T:TypeId→Prop}{w:World}{base:Nat}{sp:Nat→Bool}{held:Bool}
theorem qP (K:Kids P T): ∀(m:Nat) (t:TypeId),lV P m t=true→T t→ ∀(n:Nat) (cs:List Value) (x:DataW H×List MemPlace),DataW.trod enc P w base sp held n t cs=some x→
  ∃c,RepC w (fun _=>False) c cs∧HasTy P t c∧cs.length=cs.length
 |0,t,hp,_,_,_,_,_=>by simp[lV]at hp
 |m+1,t,hp,hT,0,cs,x,h=>by simp[DataW.trod]at h
 |m+1,t,hp,hT,n+1,cs,x,h=>by
  unfold lV at hp;split at hp
  ·
   rename_i hu;unfold DataW.trod at h;rw[hu]at h;split at h
   case h_1=>rename_i b h1;exact⟨.bool b,by simp[RepC],.bool hu b,rfl⟩
   all_goals grind
  ·
   rename_i k hu;unfold DataW.trod at h;rw[hu]at h;split at h
   case h_2=>
    rename_i k' k2 n2 h1;cases h1;split at h
    · rename_i hc;obtain⟨rfl,hw⟩:=hc;exact⟨.int _ n2,by simp[RepC],.int hu hw,rfl⟩
    grind
   all_goals grind
  ·
   rename_i hu;unfold DataW.trod at h;rw[hu]at h;split at h
   case h_4=>
    rename_i s h1;split at h
    · rename_i hc;refine⟨.str s.data.toList,by simp[RepC],.str hu ?_,rfl⟩;simp_all
    grind
   all_goals grind
  ·
   rename_i e hu;unfold DataW.trod at h;rw[hu]at h;split at h
   case h_7=>
    rename_i el h1;exact⟨.slc [],by simp only[RepC];exact⟨none,0,[],0,rfl,by simp[RepL],by simp,by simp,fun _=>rfl,fun ad had=>(by grind)⟩,.slc hu (by simp) (by simp),rfl⟩
   case h_8=>
    rename_i e' a len cap h1;cases h1;simp only at h;split at h
    ·
     rename_i hc;obtain⟨hb,hlc,hcm⟩:=hc;rw[Option.bind_eq_some_iff]at h;obtain⟨elems,he,_⟩:=h;have hel: ∀i,i<len→ ∃cl,w.cells? base (a.add (i*P.cellsOf e)) (P.cellsOf e)=some cl∧ ∃y,DataW.trod enc P w base sp held n e cl=some y:=fun i hi=>by
      have:=mapM_some_get he i i (by grind);grind[hlen,mapM_some_length,List.length_range,List.getElem?_eq_getElem,Option.bind_eq_some_iff]
     let g:Nat→List Value:=fun i=>(w.cells? base (a.add (i*P.cellsOf e)) (P.cellsOf e)).getD []
     have hg: ∀i,i<len→(g i).length=P.cellsOf e∧ ∀r,r<P.cellsOf e→w.cell? ((a.add (i*P.cellsOf e)).add r)=(g i)[r]? :=fun i hi=>by
      obtain⟨cl,h3,_⟩:=hel i hi;obtain⟨_,h4,h5⟩:=World.cells?_some h3;grind
     obtain⟨cl,hr,hlen,hty⟩:=lW (w:=w) (O:=fun _=>False) (g:=g) (R:=fun i c=>HasTy P e c∧c.cells=P.cellsOf e) (List.range len) (fun i hi=>by
      have hi':=List.mem_range.1 hi;obtain⟨cl,h3,y,h4⟩:=hel i hi';have hgi:g i=cl:=by simp[g,h3]
      obtain⟨c,q1,q2,_⟩:=qP K m e hp (K.slice hT hu) n cl y h4;grind[bM,World.cells?_some])
     simp only[List.length_range]at hlen;have hmem: ∀x∈cl,HasTy P e x∧x.cells=P.cellsOf e:=fun x hx=>by
      obtain⟨i,hi,rfl⟩:=List.getElem_of_mem hx;exact hty i i _ (List.getElem?_range (by omega)) (by rw[List.getElem?_eq_getElem hi])
     refine⟨.slc cl,?_,.slc hu (fun x hx=>(hmem x hx).1) (by omega),rfl⟩;simp only[RepC];refine⟨some a,cap,_,P.cellsOf e,by rw[hlen],hr,fun v hv=>(hmem v hv).2,by omega,fun hh=>(by grind),fun ad had=>?_⟩;cases had;exact⟨(wF len hg).2,fun _ h=>h⟩
    grind
   all_goals grind
  ·
   rename_i k e hu;unfold DataW.trod at h;rw[hu]at h;split at h
   case h_10=>
    rename_i cs0 _ _ k' e' h1;cases h1;split at h
    ·
     rename_i hc;rw[Option.map_eq_some_iff]at h;obtain⟨xs,hxs,_⟩:=h;obtain⟨hTe,hce⟩:=K.array hT hu;obtain⟨cl,hr,hlen,hty⟩:=lW (w:=w) (O:=fun _=>False) (g:=fun i=>(cs0.drop (i*P.cellsOf e)).take (P.cellsOf e)) (R:=fun i c=>HasTy P e c) (List.range k) (fun i hi=>by
      have hi':=List.mem_range.1 hi;have:=mapM_some_get hxs i i (by grind);have hlen:=mapM_some_length hxs;simp only[List.length_range]at hlen;rw[List.getElem?_eq_getElem (by omega)]at this;obtain⟨c,q1,q2,_⟩:=qP K m e hp hTe n _ _ this;grind)
     simp only[List.length_range]at hlen;rw[wE,←hce,←hc,List.take_length]at hr;refine⟨.agg cl,hr,.arr hu (fun x hx=>?_) hlen,rfl⟩;obtain⟨i,hi,rfl⟩:=List.getElem_of_mem hx;exact hty i i _ (List.getElem?_range (by omega)) (by rw[List.getElem?_eq_getElem hi])
    grind
   all_goals grind
  ·
   rename_i fs hu;unfold DataW.trod at h;rw[hu]at h;split at h
   case h_9=>
    rename_i cs0 _ _ fs' h1;cases h1;split at h
    ·
     rename_i hc;rw[Option.map_eq_some_iff]at h;obtain⟨xs,hxs,_⟩:=h;obtain⟨hTf,hsum,hoff⟩:=K.struct hT hu;obtain⟨cl,hr,hlen,hty⟩:=lW (w:=w) (O:=fun _=>False) (g:=fun f:Field=>(cs0.drop f.offset).take (P.cellsOf f.type)) (R:=fun f c=>HasTy P f.type c) fs.toList (fun f hf=>by
      obtain⟨i,hi,rfl⟩:=List.getElem_of_mem hf;have:=mapM_some_get hxs i _ (List.getElem?_eq_getElem hi);have hlen:=mapM_some_length hxs;rw[List.getElem?_eq_getElem (by omega)]at this;obtain⟨c,q1,q2,_⟩:=qP K m _ (List.all_eq_true.1 hp _ (List.getElem_mem hi)) (hTf _ (List.getElem_mem hi)) n _ _ this;grind)
     rw[wD (cw:=fun f=>P.cellsOf f.type) fs.toList 0 (fun j f hf=>by grind),List.drop_zero,←hsum,←hc,List.take_length]at hr;exact⟨.agg cl,hr,.struct hu (by grind) hty,rfl⟩
    grind
   all_goals grind
  grind
theorem uM {t:TypeId}{v:Value}{c:CV}(hc:HasTy P t c)(h:Value.okWide P w .any base t v):c.isAgg=Value.isAgg' v:=by
 cases hc with
 |bool hu b=>unfold Value.okWide at h;rw[hu]at h;simp only[Cell.okWide,hu]at h;cases v<;>simp_all[Cell.ok,CV.isAgg,Value.isAgg']
 |int hu hw=>unfold Value.okWide at h;rw[hu]at h;simp only[Cell.okWide,hu]at h;cases v<;>simp_all[Cell.ok,CV.isAgg,Value.isAgg']
 |str hu hs=>unfold Value.okWide at h;rw[hu]at h;simp only[Cell.okWide,hu]at h;cases v<;>simp_all[Cell.ok,CV.isAgg,Value.isAgg']
 |slc hu hl hn=>unfold Value.okWide at h;rw[hu]at h;simp only[Cell.okWide,hu]at h;cases v<;>simp_all[Cell.ok,CV.isAgg,Value.isAgg']
 |arr hu hl hn=>unfold Value.okWide at h;rw[hu]at h;obtain⟨cs,rfl,_⟩:=h;rfl
 |struct hu hn hl=>unfold Value.okWide at h;rw[hu]at h;obtain⟨cs,rfl,_⟩:=h;rfl
theorem aK2 (b:Nat): ¬Own (fun _=>none) b:=by rintro⟨_,_,h,_⟩;cases h
theorem qQ (K:Kids P T){m:Nat}: ∀{ts:List TypeId} {vs:List Value} {ds:List (DataW H)} {ps:List MemPlace},DataW.TrodAll enc P w base sp held ts vs ds ps→(∀t∈ts,lV P m t=true∧T t)→
  (∀(j:Nat) t v,ts[j]? =some t→vs[j]? =some v→Value.okWide P w .any 0 t v)→
  ∃cs:List CV,RepHV w (fun _=>none) (Owned (fun _=>none) (fun _=>False)) (cs.map .c) vs∧cs.length=ts.length∧ds.length=ts.length∧ ∀(j:Nat) t c,ts[j]? =some t→cs[j]? =some c→HasTy P t c
 |[],vs,ds,ps,h,_,_=>by
  obtain⟨rfl,rfl,rfl⟩:=ChangeShapes.trodAll_nil h;exact⟨[],by simp[RepHV],rfl,rfl,by simp⟩
 |t::ts,vs,ds,ps,h,hp,ho=>by
  obtain⟨v,vs1,d,ds1,a,b,rfl,rfl,rfl,⟨n,h1⟩,h2⟩:=ChangeShapes.trodAll_cons h;obtain⟨c,q1,q2,_⟩:=qP (w:=w) K m t (hp t (by simp)).1 (hp t (by simp)).2 n _ _ h1;obtain⟨cs,r1,r2,r3,r4⟩:=qQ K h2 (fun t ht=>hp t (by simp[ht])) (fun j t v h3 h4=>ho (j+1) t v (by simpa using h3) (by simpa using h4));have hst:Stay w (fun _=>False) w (Owned (fun _=>none) (fun _=>False)):=⟨fun b _ _=>⟨rfl,fun hb=>hb.elim (fun x=>x) (aK2 b)⟩⟩;refine⟨c::cs,?_,by simp[r2],by simp[r3],fun j t' c' h3 h4=>?_⟩
  · rw[List.map_cons,bP];exact⟨v,vs1,rfl,⟨by simp only[RepH];exact q1.stay hst,uM q2 (ho 0 t v rfl rfl)⟩,r1⟩
  ·
   cases j with
   |zero=>simp at h3 h4;rw[←h3,←h4];exact q2
   |succ j=>simp at h3 h4;exact r4 j t' c' h3 h4
theorem bD5 {w w':World}(h: ∀b,b<w.heap.size→w'.heap[b]? =w.heap[b]?){p:MemPlace}(hp:p.block<w.heap.size):w.sameAt w' p:=by
 cases p with
 |cell b off=>exact World.cell?_of_block (h b hp)
 |map b=>exact h b hp
theorem oN {w':World}: ∀{ts:List TypeId} {vs:List Value} {ds:List (DataW H)} {ps:List MemPlace},DataW.TrodAll enc P w base sp held ts vs ds ps→(∀p∈ps,w.sameAt w' p)→DataW.TrodAll enc P w' base sp held ts vs ds ps
 |[],_,_,_,h,_=>by
  obtain⟨rfl,rfl,rfl⟩:=ChangeShapes.trodAll_nil h;exact ChangeShapes.trodAll_mk0
 |t::ts,_,_,_,h,hs=>by
  obtain⟨v,vs1,d,ds1,a,b,rfl,rfl,rfl,⟨n,h1⟩,h2⟩:=ChangeShapes.trodAll_cons h;exact⟨a,b,⟨n,DataW.trod_carry n t _ _ h1 (fun p hp=>hs p (List.mem_append_left _ hp))⟩,oN h2 (fun p hp=>hs p (List.mem_append_right _ hp)),rfl⟩
theorem aS4 {w w':World}(h1:w'.os=w.os)(h2:w'.output=w.output)(h: ∀b,b<w.heap.size→w'.heap[b]? =w.heap[b]?)(may:MemPlace→Prop):w.keptBut w' may:=by
 refine⟨h1,h2,fun i hi=>?_⟩;grind
end
end Go.Hl
namespace Go.Hl
open Go Go.RowKit Go.Sort Go.Proofs
end Go.Hl
namespace Go.Hl
open Go Go.RowKit
end Go.Hl
namespace Go.Hl
open Go Go.RowKit Go.Sort
abbrev nB :=List (Nat×List Value)
def fN (T:nB):Ob:=fob [(0,.tab T)]
def nC (P:Program)(f:FuncId)(T:nB)(args:List CV)(R:CV→Prop):Prop:=
 HFn P f (args.map .c) 1 (fN T) (fun r ob'=> ∃v,r= .c v∧ob'=fN T∧R v)
def qR (P:Program)(f:FuncId)(T:nB)(args:List CV)(R:CV→CV→Prop):Prop:=
 HFn P f (args.map .c) 1 (fN T) (fun r ob'=> ∃u v,r= .tup [.c u,.c v]∧ob'=fN T∧R u v)
theorem gE (T:nB)(j:Nat):fN T j=if j=0 then some (.tab T)else none:=by
 simp only[fN,fob_at,fob_nil]
theorem fS (T:nB)(args:List CV):LocOk 1 (args.map .c) (fN T):=by
 refine⟨fun j h=>?_,fun id o h=>?_,HV.menL_c⟩
 ·
  have:j=0:=by omega
  subst this;exact⟨_,rfl⟩
 grind[gE,HO.men]
variable {T:nB}{ob:Ob}
theorem bN6 {cl:List Nat}(hb:ob 0=some (.tab T))(h0:0∉cl)(j:Nat)(o:HO)(ho:fN T j=some o):
  j<1+4∧o.men (· <1+4)∧id j∉cl∧ ∃o0,ob (id j)=some o0∧(match o0 with| .box t v=>HO.box t (v.close ob cl).norm| .row e sz l=> .row e sz l| .mp e sz D=> .mp e sz D| .dead=> .dead| .tab T=> .tab T| .hrow e sz l=> .hrow e sz (HV.closeL ob cl l)| .raw es c=> .raw es c| .it m s q l=> .it m s q l)=o.ren id:=by
 rw[gE]at ho;split at ho
 ·
  subst_vars
  cases ho;exact⟨by omega,by simp[HO.men],h0,_,hb,rfl⟩
 grind
variable {r:HV}
theorem lX {R:CV→Prop}(cl:List Nat)(v:CV)(h:(r.close ob cl).norm= .c v)(hb:ob 0=some (.tab T))(h0:0∉cl)(hR:R v):
  iO 1 r ob (fun r ob'=> ∃v,r= .c v∧ob'=fN T∧R v):=
 ⟨cl,id,.c v,fN T,⟨v,rfl,rfl,hR⟩,by rw[h];rfl,fun _ _=>rfl,fun _ _ _ _ h=>h,by simp[HV.men],bN6 hb h0⟩
variable {R:CV→CV→Prop}
theorem eP (cl:List Nat)(u v:CV)(h:(r.close ob cl).norm= .tup [.c u,.c v])(hb:ob 0=some (.tab T))(h0:0∉cl)(hR:R u v):
  iO 1 r ob (fun r ob'=> ∃u v,r= .tup [.c u,.c v]∧ob'=fN T∧R u v):=
 ⟨cl,id,.tup [.c u,.c v],fN T,⟨u,v,rfl,rfl,hR⟩,by grind[HV.ren,HV.renL],fun _ _=>rfl,fun _ _ _ _ h=>h,by simp[HV.men,HV.menL],bN6 hb h0⟩
variable {nid:Nat}
theorem tW {id:Nat}(hid:ob id=some (.tab T))(hfree:ob nid=none∧ob (nid+1)=none∧ob (nid+2)=none∧ob (nid+3)=none):bY ob [id] nid (fN T)=ob:=by
 funext i;by_cases e:i=id
 · subst e;simp only[bY,List.findIdx?_cons,beq_self_eq_true,if_true,gE,Option.map_some,hid];rfl
 ·
  have e':(id==i)=false:=by simp;exact fun h=>e h.symm
  simp only[bY,List.findIdx?_cons,e',List.findIdx?_nil,Option.map_none];simp only[Bool.false_eq_true,if_false];split
  ·
   rename_i hr;have h1:[id].length+(i-nid)≠0:=by simp
   rw[gE,if_neg h1];grind
  · rfl
theorem zD {id:Nat}(hid:ob id=some (.tab T)): ∀j o,fN T j=some o→ob ([id].getD j 0)=some (o.ren (sub [id] nid)):=by grind[gE,HO.ren]
variable {args:List CV}{K:HV→Ob→Prop}{f:FuncId}{av:List Nat}{P:Program}
theorem jQ {R:CV→Prop}(id:Nat)(h:nC P f T args R)(hid:ob id=some (.tab T))(hav:id∉av)
  (hfree:ob nid=none∧ob (nid+1)=none∧ob (nid+2)=none∧ob (nid+3)=none) (hK: ∀v,R v→K (.c v) ob):HCall P av f (args.map .c) ob nid K:=by
 refine⟨[id],args.map .c,_,_,h,fS T args,⟨by simp,by grind⟩,(HV.renL_c _ _).symm,zD hid,fun r lob' hR _=>?_⟩;obtain⟨v,rfl,rfl,hR⟩:=hR;rw[tW hid hfree];exact hK v hR
theorem fO (id:Nat)(h:qR P f T args R)(hid:ob id=some (.tab T))(hav:id∉av)
  (hfree:ob nid=none∧ob (nid+1)=none∧ob (nid+2)=none∧ob (nid+3)=none) (hK: ∀u v,R u v→K (.tup [.c u,.c v]) ob):HCall P av f (args.map .c) ob nid K:=by
 refine⟨[id],args.map .c,_,_,h,fS T args,⟨by simp,by grind⟩,(HV.renL_c _ _).symm,zD hid,fun r lob' hR _=>?_⟩;obtain⟨u,v,rfl,rfl,hR⟩:=hR;rw[tW hid hfree];exact hK u v hR
theorem aS5 {g:Nat}{name:String}{k:IntKind}{zs:List Int}(hok:eF P f=true)(hg:P.globalNamed name=some g)(hT:(g,zs.map fun z=>Value.int k z)∈T){a b:Int}{s:List UInt8}
  (hc: ∀w:World,Lib.TabIs P w name k zs→Calls P f #[.int .i64 a,.int .i64 b] w fun e w'=>e= .returned (.string ⟨s.toArray⟩)∧ ∃n os,w'=grow (w.drewN n) os):
  nC P f T [.int .i64 a,.int .i64 b] (fun v=>v= .str s):=by
 refine⟨qE hok,fun w ρ X xs hS hA hX=>Does.of hok ?_⟩;have h0:=hS.objs 0 _ (rfl:fN T 0=some (.tab T));have htab:Lib.TabIs P w name k zs:=by
  obtain⟨-,h1⟩:=h0;obtain⟨⟨t,fz,h2⟩,-⟩:=h1 _ hT;simp only[Lib.TabIs,World.var?,hg,Option.bind_some,h2]
 simp only[List.map_cons,List.map_nil,bP,RepHV]at hA;obtain⟨x,zs',rfl,hx,y,zs'',rfl,hy,rfl⟩:=hA;have h1:=RepV.single hx rfl;have h2:=RepV.single hy rfl;simp only[RepC,List.cons.injEq,and_true]at h1 h2;subst h1 h2;refine(hc w htab).mono ?_;rintro ex w' ⟨rfl,n,os,rfl⟩;have hs2:Stay2 w (Own ρ) (grow (w.drewN n) os) (Own ρ):=⟨fun c hc' _=>by grind[grow,World.drewN,Array.getElem?_append_left],fun _ h=> .inl h,by simp_all,rfl,rfl,rfl⟩;have hst:=hs2.stay X;refine⟨_,_,ρ,_,rfl,⟨_,rfl,rfl,rfl⟩,⟨?_,⟨fun i o ho=>?_,hS.none,hS.apart,hS.xb⟩,by simp[HV.men],fun i o ho=>?_,hs2,Moves.refl _ _⟩⟩
 · refine bR ?_ rfl rfl;simp[RepC]
 ·
  rw[gE]at ho;split at ho
  ·
   subst_vars
   cases ho;exact⟨h0.1,kW hst h0.2⟩
  · cases ho
 grind[gE,HO.men]
end Go.Hl
namespace Go.Hl
open Go Go.RowKit
section
variable {P:Program}{T:TypeId→Prop}{H:Type}{enc:TypeId×Value→H}
theorem bD6 {W:World}{args:Array Value}{f:FuncId}{fn:Func}{s:ChangeSpec}{mm:Nat}{tb:TypeId}{tabs:nB}(hok:eF P f=true)(K:Kids P T)(hz: ∀t e,T t→P.underlying t=some (.slice e)→0<P.cellsOf e)(hvars:s.vars=[])(hres:fn.resultTypes= #[tb])(htb:P.underlying tb=some .bool)
  (hspec: ∀(H:Type) (ds:List (DataW H)),ds.length=fn.params.toList.length→(s.fn H ds).results=[.lit (.bool true)]∧(s.fn H ds).args=ds∧(s.fn H ds).vars=[]) (hpl: ∀t∈fn.params.toList,lV P mm t=true∧T t)
  (hlaw: ∀cs:List CV,cs.length=fn.params.toList.length→(∀(j:Nat) t c,fn.params.toList[j]? =some t→cs[j]? =some c→HasTy P t c)→RepHV W (fun _=>none) (Owned (fun _=>none) (fun _=>False)) (cs.map .c) args.toList→nC P f tabs cs (fun v=>v= .bool true))
  (htab: ∀x∈tabs,∃t fz,W.heap[x.1]? =some (.cells x.2.toArray t fz)) {ds gs:List (DataW H)} {before:List MemPlace} (hval: ∀(j:Nat) t v,fn.params[j]? =some t→args[j]? =some v→Value.okWide P W .any 0 t v)
  (hW:DataW.Whole enc P fn.params.toList s.vars false W args.toList ds gs before):
  Calls P f args W fun e W'=> ∃v,e= .returned v∧s.post enc P fn false true false false W args v W':=by
 have hW':=hW;obtain⟨p,q,hA,hV,rfl,hfz,hnd⟩:=hW;rw[hvars]at hV;obtain⟨rfl,rfl⟩:=ChangeShapes.trodVars_none hV;simp only[List.append_nil]at hW' hfz;obtain⟨cs,r1,r2,r3,r4⟩:=qQ (m:=mm) K hA hpl (fun j t v h1 h2=>hval j t v (by grind) (by grind));obtain⟨_,hrun⟩:=hlaw cs r2 r4 r1;have hS:RepS W (fun _=>none) (fun _=>False) (fN tabs):=by
  refine⟨fun i o h=>?_,fun _ _=>rfl,fun _ _ _ _ _ h=>(by grind),fun _ _ _ h=>(by grind)⟩;rw[gE]at h;split at h
  ·
   cases h;refine⟨rfl,fun x hx=>⟨htab x hx,?_⟩⟩;rintro(h1|⟨i,L,h1,_⟩)
   · exact h1
   · cases h1
  · cases h
 have hcall:=hrun W (fun _=>none) (fun _=>False) args.toList hS r1 (fun _ h=>h.elim);rw[Array.toArray_toList]at hcall;refine(hcall.calls hok).mono ?_;rintro e W' ⟨r,ob',ρ',x,rfl,⟨v,rfl,rfl,rfl⟩,hg⟩;obtain⟨hr1,hr2⟩:=hg.v;have hx:x= .bool true:=by
  have hag:Value.isAgg' x=false:=by rw[←hr2];rfl
  rw[cells_single hag]at hr1;simpa[RepH,RepC]using hr1
 subst hx;have hheap: ∀b,b<W.heap.size→W'.heap[b]? =W.heap[b]? :=fun b hb=>hg.stay.block b hb (aK2 b);obtain⟨s1,s2,s3⟩:=hspec H (ds++[]) (by simpa using r3);have hlt: ∀a∈p,a.block<W.heap.size:=hA.lt;have args': ∀sp:Nat→Bool,(∀a∈p,sp a.block=true)→DataW.TrodAll enc P W' 0 sp true fn.params.toList args.toList ds p:=fun sp hsp=>
  oN (hA.respare K hz (fun t ht=>(hpl t ht).2) hsp) (fun a ha=>bD5 hheap (hlt a ha))
 have hrl:Value.resultList fn.resultTypes.size (.bool true)=[.bool true]:=by rw[hres];rfl
 have hresT: ∀(b:Nat) (sp:Nat→Bool) (hd:Bool),DataW.TrodAll enc P W' b sp hd fn.resultTypes.toList (Value.resultList fn.resultTypes.size (.bool true)) [.lit (.bool true)] []:=fun b sp hd=>by
  rw[hrl,hres];exact trodAll_cons_mk (RowKit.shut_bool htb true) ChangeShapes.trodAll_mk0
 refine⟨.bool true,rfl,ds,[],p,[],p,[],by simpa using hW',?_,?_,?_,?_,?_⟩
 · rw[s1];exact hresT _ _ _
 · rw[s2];simpa using args' _ (fun a ha=>by simpa using hlt a ha)
 · rw[s3,hvars];rfl
 · exact aS4 hg.stay.os hg.stay.output hheap _
 · intro h;cases h
theorem bD7 {f:FuncId}{fn:Func}{s:ChangeSpec}{mm:Nat}{tb:TypeId}{tabs:nB}(hok:eF P f=true)(K:Kids P T)(hz: ∀t e,T t→P.underlying t=some (.slice e)→0<P.cellsOf e)(hvars:s.vars=[])(hres:fn.resultTypes= #[tb])(htb:P.underlying tb=some .bool)
  (hspec: ∀(H:Type) (ds:List (DataW H)),ds.length=fn.params.toList.length→(s.fn H ds).results=[.lit (.bool true)]∧(s.fn H ds).args=ds∧(s.fn H ds).vars=[]) (hpl: ∀t∈fn.params.toList,lV P mm t=true∧T t)
  (hlaw: ∀cs:List CV,cs.length=fn.params.toList.length→(∀(j:Nat) t c,fn.params.toList[j]? =some t→cs[j]? =some c→HasTy P t c)→nC P f tabs cs (fun v=>v= .bool true))
  {W:World} (htab: ∀x∈tabs,∃t fz,W.heap[x.1]? =some (.cells x.2.toArray t fz)) {args:Array Value} {ds gs:List (DataW H)} {before:List MemPlace} (hval: ∀(j:Nat) t v,fn.params[j]? =some t→args[j]? =some v→Value.okWide P W .any 0 t v)
  (hW:DataW.Whole enc P fn.params.toList s.vars false W args.toList ds gs before):
  Calls P f args W fun e W'=> ∃v,e= .returned v∧s.post enc P fn false true false false W args v W':=
 bD6 hok K hz hvars hres htb hspec hpl (fun cs h1 h2 _=>hlaw cs h1 h2) htab hval hW
end
theorem yC {P:Program}{W:World}{name:String}{k:IntKind}{zs:List Int}{g:Nat}(hg:P.globalNamed name=some g)(h:Lib.TabIs P W name k zs): ∃t fz,W.heap[g]? =some (.cells (zs.map fun z=>Value.int k z).toArray t fz):=by grind[Lib.TabIs,World.var?]
end Go.Hl
namespace Go.Hl
open Go
open Go.ChangeMaps (setBlock heap_setBlock_same heap_setBlock_other)
section
variable {P:Program}{n k:Nat}{ops:Array Oper}{nx i:Nat}{Kf:Fr→Ob→Prop}{fr:Fr}{ob:Ob}
def Lx (P:Program)(n k:Nat)(ops:Array Oper)(nx:Nat)(Kf:Fr→Ob→Prop)(i:Nat)(fr:Fr)(ob:Ob):Prop:=
 ∀(c:Ctx) (a:Act) (w:World) (Q:Exit→Act→World→Prop),c.n=n→c.M0=(· <k)→(∀fr' ob' a' w',Kf fr' ob'→RepA c (· <nx+4*ops.size) fr' ob' a' w'→Q .normal a' w')→RepA c (· <nx+4*i) fr ob a w→wpOpsIn c.F 0 P ops Q (List.range' i (ops.size-i)) a w
theorem aX5 {id:Nat}{Q:eV}(h:Lx P n k ops nx (fun fr' ob'=>Q .normal fr' ob' (nx+4*ops.size)) 0 fr ob):Hw P n k (.region id ops false) Q fr ob nx:=by
 intro c a w hn hk hz hA;refine wpIn_region ?_;rw[List.range_eq_range'];exact h c a w _ hn hk (fun fr' ob' a' w' hK hA'=>⟨fr',ob',_,hK,hA'⟩) hA
theorem wG (hi:i=ops.size)(h:Kf fr ob):Lx P n k ops nx Kf i fr ob:=by
 subst hi;intro c a w Q hn hk hQ hA;simp only[Nat.sub_self,List.range'_zero,wpOpsIn];exact hQ _ _ _ _ h hA
theorem aK3 {o:Oper}{g:Option (Nat×Bool)}(hd:gO n ops=true)(ho:ops[i]? =some o)(hg:gd ops o=some g)(h: ∀K:Fr→Ob→Prop,(∀fr ob,Lx P n k ops nx Kf (i+1) fr ob→K fr ob)→hop1 P (nx+4*i) [] g o.op o.dst K fr ob):Lx P n k ops nx Kf i fr ob:=by
 intro c a w Q hn hk hQ hA;have hi:i<ops.size:=(Array.getElem?_eq_some_iff.1 ho).1;rw[show ops.size-i=(ops.size-(i+1))+1 by omega,List.range'_succ,wpOpsIn_cons];have hI:=sF (fun _ _ x=>x) (lB ho hg (h _ (fun _ _ x=>x)));refine wpOpIn_mono (fun a' w' hx=>?_) (kI (Q:=Q) (M':=(· <nx+4*(i+1))) hA (fun t ht=>by omega) (fun i hi=>by omega) (fun t ht=>by omega) (by rw[hn];exact gK hd) hI);obtain⟨fr',ob',hK,hA'⟩:=hx;exact hK c a' w' Q hn hk hQ hA'
theorem wH {o:Oper}(hd:gO n ops=true)(ho:ops[i]? =some o)(hg:o.guard=none)(hn0: ∀c,o.op≠ .defer c)
  (h: ∀(c:Ctx) (a:Act) (w:World) (ρ:Env),RepA' c (· <nx+4*i) fr ob a w ρ→(∀t,o.dst=some t→t<c.n)→ ∃y w' fr' ob',((execOp a.eval o).run P w= .ok (.value y) w'∨((execOp a.eval o).run P w= .ok .skip w'∧y=undef))∧Lx P n k ops nx Kf (i+1) fr' ob'∧RepA c (· <nx+4*(i+1)) fr' ob' (a.put o.dst y) w'):Lx P n k ops nx Kf i fr ob:=by
 intro c a w Q hn hk hQ hA;have hi:i<ops.size:=(Array.getElem?_eq_some_iff.1 ho).1;rw[show ops.size-i=(ops.size-(i+1))+1 by omega,List.range'_succ,wpOpsIn_cons];obtain⟨ρ,hA⟩:=hA;unfold wpOpIn;rw[ho];simp only;rw[if_pos (by unfold Region.wanted;rw[hg])];obtain⟨y,w',fr',ob',hrun,hL,hA'⟩:=h c a w ρ hA (fun t ht=>by rw[hn];exact gK hd o (Array.mem_of_getElem? ho) t ht);refine⟨fun _ _=>trivial,?_⟩;rw[Oper.semAt_eq _ _ _ hn0];rcases hrun with hrun|⟨hrun,rfl⟩
 · rw[hrun];exact hL c _ w' Q hn hk hQ hA'
 · rw[hrun];exact hL c _ w' Q hn hk hQ hA'
section
variable {c:Ctx}{M:Nat→Prop}{a:Act}{w:World}{ρ:Env}
theorem cE3 (h:RepA' c M fr ob a w ρ){x:Operand}{id m:Nat}(hx:ev fr x= .ptr id 0){s q:Nat}{seen:Array Nat}(ho:ob id=some (.it m s seen q)){es:Array MapEntry}{ck:Nat}(hm:ob m=some (.raw es ck)):
  ∃b bm,ρ id=some (.blk b)∧a.eval x= .pointer (some ⟨b,0,none⟩)∧w.heap[b]? =some (.mapIter (some bm) s seen q)∧w.heap[bm]? =some (.map es ck)∧ρ m=some (.mp bm fun _=>none):=by
 obtain⟨y,he,h1,hp⟩:=bK4 h hx;obtain⟨b,x',h2,h3,h4⟩:=h.s.objs id _ ho;obtain⟨bm,h5,h6⟩:=h.s.objs m _ hm;have:=h4 _ _ h5;subst this;exact⟨b,x',h2,by grind,h3,h6,h5⟩
end
theorem aS6 {o:Oper}{t:TypeId}{d:Nat}(hd:gO n ops=true)(ho:ops[i]? =some o)(hg:o.guard=none)(hop:o.op= .makeMap t none)(hdst:o.dst=some d)
  (h:Lx P n k ops nx Kf (i+1) (upd fr d (.mapr (nx+4*i))) (upd ob (nx+4*i) (some (.raw (gJ []) 0)))):Lx P n k ops nx Kf i fr ob:=by
 refine wH hd ho hg (by rw[hop];intro c hc;cases hc) fun c a w ρ hA hdd=>?_;have:=hA.newObj (d:=o.dst) (w1:=w) (obj:= .map #[] 0) (nid:=nx+4*i) (M':=(· <nx+4*(i+1))) (v:= .mapr (nx+4*i)) (x:= .map (some w.heap.size)) (L:= .mp w.heap.size (fun _=>none)) (o:= .raw (gJ []) 0) (by omega) (fun j hj=>by omega) (by omega) rfl rfl rfl rfl ?_ (fun _=>?_) trivial (.inr ?_) (by simp only[HV.men];omega) hdd
 · simp only[hdst]at this⊢;exact⟨.map (some w.heap.size),w.alloc (.map #[] 0),_,_,.inl (by simp only[execOp,hop];rfl),h,⟨_,this⟩⟩
 ·
  rintro b (hb|⟨k,v,e1,e2⟩)
  · exact hb
  · cases e1
 · exact⟨_,aU _ _ _,heap_alloc_new w _⟩
 · refine cP ?_ rfl rfl;simp only[RepH];refine⟨_,rfl,by simp[Value.oneCell'],fun b hf hρ=>?_⟩;rw[aU]at hρ;cases hρ;rfl
theorem bN7 {o:Oper}{t kt et:TypeId}{x:Operand}{d id:Nat}{es:Array MapEntry}{ck:Nat}(hd:gO n ops=true)(ho:ops[i]? =some o)(hg:o.guard=none)(hop:o.op= .range t x)(hdst:o.dst=some d)
  (hut:P.underlying t=some (.map kt et)) (hx:ev fr x= .mapr id) (hob:ob id=some (.raw es ck))
  (h:Lx P n k ops nx Kf (i+1) (upd fr d (.ptr (nx+4*i) 0)) (upd ob (nx+4*i) (some (.it id ck #[] ck)))):Lx P n k ops nx Kf i fr ob:=by
 refine wH hd ho hg (by rw[hop];intro c hc;cases hc) fun c a w ρ hA hdd=>?_;obtain⟨b,h1,h2,h3⟩:=aQ1 hA hx hob;have hrun:(execOp a.eval o).run P w= .ok (.value (.pointer (some ⟨w.heap.size,0,none⟩))) (w.alloc (.mapIter (some b) ck #[] ck)):=by
  have e:(newObj (.mapIter (some b) ck #[] ck)).run P w= .ok w.heap.size (w.alloc (.mapIter (some b) ck #[] ck)):=rfl;simp[execOp,hop,h2,Instr.range,run_underlying hut,MapKept.run_getObj_map h3,Result.andThen,e]
 have hid:=(hA.mo id _ hob).1;have:=hA.newObj (d:=o.dst) (w1:=w) (obj:= .mapIter (some b) ck #[] ck) (nid:=nx+4*i) (M':=(· <nx+4*(i+1))) (v:= .ptr (nx+4*i) 0) (x:= .pointer (some ⟨w.heap.size,0,none⟩)) (L:= .blk w.heap.size) (o:= .it id ck #[] ck) (by omega) (fun j hj=>by omega) (by omega) rfl rfl rfl rfl ?_ (fun _=>?_) (by simp only[HO.men];omega) (.inr ?_) (by simp only[HV.men];omega) hdd
 · simp only[hdst]at this⊢;exact⟨_,_,_,_,.inl hrun,h,⟨_,this⟩⟩
 · rintro b hb;exact hb
 · refine⟨_,b,aU _ _ _,heap_alloc_new w _,fun bm hf hρ=>?_⟩;rw[bE _ _ (by omega),h1]at hρ;cases hρ;rfl
 · refine cP ?_ rfl rfl;simp only[RepH];refine⟨_,rfl,by simp[Value.oneCell'],fun b hρ=>?_⟩;rw[aU]at hρ;cases hρ;rfl
theorem lF {o:Oper}{t kt et:TypeId}{m kx vx:Operand}{id:Nat}{l:List (Int×List UInt8)}{z:Int}{s:List UInt8}(hd:gO n ops=true)(ho:ops[i]? =some o)(hg:o.guard=none)(hop:o.op= .insert t m kx vx)(hdst:o.dst=none)
  (hut:P.underlying t=some (.map kt et)) (hkt:P.underlying kt=some (.int .i64)) (hm:ev fr m= .mapr id) (hob:ob id=some (.raw (gJ l) l.length)) (hk:ev fr kx= .c (.int .i64 z)) (hv:ev fr vx= .c (.str s)) (hno:lkG l z=none)
  (h:Lx P n k ops nx Kf (i+1) fr (upd ob id (some (.raw (gJ (l++[(z,s)])) (l.length+1))))):Lx P n k ops nx Kf i fr ob:=by
 refine wH hd ho hg (by rw[hop];intro c hc;cases hc) fun c a w ρ hA hdd=>?_;obtain⟨b,h1,h2,h3⟩:=aQ1 hA hm hob;obtain⟨r,f1,f2⟩:=pB z 0 0 l;rw[hno]at f2;have hr:r=none:=by cases r with|none=>rfl|some x=>simp at f2
 subst hr;have hrun:(execOp a.eval o).run P w= .ok .skip (setBlock w b (.map (gJ (l++[(z,s)])) (l.length+1))):=by
  have f3:Instr.findNow (.int .i64) (.int .i64 z) (gJ l).toList 0=some none:=by simpa[gJ]using f1
  simp[execOp,hop,h2,dE hA hk,kM hA hv,Instr.mapUpdate,run_underlying hut,MapKept.run_getObj_map h3,aQ0 hkt,Instr.findKey,run_underlying hkt,f3,MapKept.run_setObj_map _ h3,Result.andThen,setBlock,bB5]
 have hid:=(hA.mo id _ hob).1;have:=hA.setObj (d:=none) (v:= .junk) (x:=undef) (w':=setBlock w b (.map (gJ (l++[(z,s)])) (l.length+1))) (o:= .raw (gJ (l++[(z,s)])) (l.length+1)) h1 (.inl rfl) hid (fun b' hb'=>heap_setBlock_other h3 _ hb') (by simp[setBlock]) rfl rfl rfl (fun _=>⟨b,h1,heap_setBlock_same h3 _⟩) trivial (fun _=> .inl rfl) (by simp[HV.men]) (fun t ht=>by cases ht);rw[hdst];exact⟨undef,_,_,_,.inr ⟨hrun,rfl⟩,h,⟨_,this.weaken (fun j hj=>by omega)⟩⟩
theorem bD8 {l:List (Int×List UInt8)}: ∀x∈(gJ l).toList,x.born<l.length:=fun x hx=>by
 obtain⟨j,hj,rfl⟩:=aW5 0 l x (by simpa[gJ]using hx);simpa using hj
theorem bX6 {w:World}{ρ:Env}{O:Nat→Prop}(z:Int)(s:List UInt8):RepV w ρ O (.tup [.c (.int .i64 z),.c (.str s)]) (.tuple #[.int .i64 z,.string ⟨s.toArray⟩]):=by
 refine⟨?_,rfl⟩;simp only[RepH];exact⟨[_,_],rfl,by simp only[RepHV];exact⟨_,_,rfl,bR (by simp[RepC]) rfl rfl,_,_,rfl,bR (by simp[RepC]) rfl rfl,rfl⟩⟩
theorem bX7 {o:Oper}{x:Operand}{d it id:Nat}{l:List (Int×List UInt8)}{seen:Array Nat}(hd:gO n ops=true)(ho:ops[i]? =some o)(hg:o.guard=none)(hop:o.op= .next x false)(hdst:o.dst=some d)
  (hx:ev fr x= .ptr it 0) (hit:ob it=some (.it id l.length seen l.length)) (hid:ob id=some (.raw (gJ l) l.length))
  (hdone:(∀j,j<l.length→seen.contains j=true)→Lx P n k ops nx Kf (i+1) (upd fr d (.tup [.c (.bool false)])) ob)
  (hnext: ∀j (hj:j<l.length),seen.contains j=false→Lx P n k ops nx Kf (i+1) (upd fr d (.tup [.c (.bool true),.c (.int .i64 l[j].1),.c (.str l[j].2)])) (upd ob it (some (.it id l.length (seen.push j) l.length)))):Lx P n k ops nx Kf i fr ob:=by
 refine wH hd ho hg (by rw[hop];intro c hc;cases hc) fun c a w ρ hA hdd=>?_;obtain⟨b,bm,h1,h2,h3,h4,h5⟩:=cE3 hA hx hit hid;rcases run_next_at (P:=P) w o.type b bm l.length l.length seen (gJ l) l.length h3 h4 bD8 (Nat.le_refl _)with⟨e1,hrun⟩|⟨e,he,w1,hw1,hrun⟩
 ·
  have hall: ∀j,j<l.length→seen.contains j=true:=fun j hj=>by
   have hin:=bK8 0 l j hj;cases hc:seen.contains j with
   |true=>rfl
   |false=>
    exfalso;have:(⟨.int .i64 l[j].1,.string ⟨l[j].2.toArray⟩,0+j⟩:MapEntry)∈leftOf (gJ l) seen:=by
     unfold leftOf;rw[Array.mem_filter];exact⟨by simpa[gJ]using hin,by simp only[Nat.zero_add,hc,Bool.not_false]⟩
    rw[Array.eq_empty_of_size_eq_zero e1]at this;simp at this
  have hv:RepV w ρ (Owned ρ c.X) (.tup [.c (.bool false)]) (.tuple #[.bool false]):=by
   refine⟨?_,rfl⟩;simp only[RepH];exact⟨[_],rfl,by simp only[RepHV];exact⟨_,_,rfl,bR (by simp[RepC]) rfl rfl,rfl⟩⟩
  have:=hA.value (d:=o.dst) (.inr hv) (by simp[HV.men,HV.menL]) hdd;rw[hdst]at this⊢;exact⟨_,_,_,_,.inl (by simp[execOp,hop,h2,hrun,Result.andThen]),hdone hall,⟨_,this.weaken (fun j hj=>by omega)⟩⟩
 ·
  have hmem:e∈esL 0 l∧seen.contains e.born=false:=by
   unfold leftOf at he;have:e∈Array.filter (fun e=>!seen.contains e.born) (gJ l):=by simpa using he
   rw[Array.mem_filter]at this;exact⟨by simpa[gJ]using this.1,by simpa using this.2⟩
  obtain⟨j,hj,rfl⟩:=aW5 0 l e hmem.1;have hc:seen.contains j=false:=by simpa using hmem.2
  have hw:w1.heap=w.heap∧w1.os=w.os∧w1.tape=w.tape∧w1.output=w.output:=by rcases hw1 with rfl|rfl<;>exact⟨rfl,rfl,rfl,rfl⟩
  obtain⟨w2,hw2⟩: ∃w2,w2=setBlock w1 b (.mapIter (some bm) l.length (seen.push j) l.length):=⟨_,rfl⟩;have hbl: ∀b',b'≠b→w2.heap[b']? =w.heap[b']? :=fun b' hb'=>by
   rw[hw2,setBlock,←hw.1];simp only;rw[Array.getElem?_setIfInBounds_ne (fun e=>hb' e.symm)]
  have hbs:w2.heap[b]? =some (.mapIter (some bm) l.length (seen.push j) l.length):=by
   rw[hw2,setBlock,hw.1];simp only;have:=(Array.getElem?_eq_some_iff.1 h3).1;rw[Array.getElem?_setIfInBounds_self];simp[this]
  have hm:=(hA.mo it _ hit).1;have hmi:HO.men (· <nx+4*i) (.it id l.length (seen.push j) l.length):=by have:=(hA.mo id _ hid).1;simpa[HO.men]using this
  have hv: ∀w':World,RepV w' ρ (Owned ρ c.X) (.tup [.c (.bool true),.c (.int .i64 l[j].1),.c (.str l[j].2)]) (.tuple #[.bool true,.int .i64 l[j].1,.string ⟨l[j].2.toArray⟩]):=fun w'=>by
   refine⟨?_,rfl⟩;simp only[RepH];exact⟨[_,_,_],rfl,by simp only[RepHV];exact⟨_,_,rfl,bR (by simp[RepC]) rfl rfl,_,_,rfl,bR (by simp[RepC]) rfl rfl,_,_,rfl,bR (by simp[RepC]) rfl rfl,rfl⟩⟩
  have:=hA.setObj (d:=o.dst) (v:= .tup [.c (.bool true),.c (.int .i64 l[j].1),.c (.str l[j].2)]) (x:= .tuple #[.bool true,.int .i64 l[j].1,.string ⟨l[j].2.toArray⟩]) (w':=w2) (o:= .it id l.length (seen.push j) l.length) h1 rfl hm hbl (by rw[hw2,setBlock,hw.1];simp) (by rw[hw2];exact hw.2.1) (by rw[hw2];exact hw.2.2.1) (by rw[hw2];exact hw.2.2.2) (fun _=>⟨b,bm,h1,hbs,fun bm' hf' hρ'=>by rw[h5]at hρ';cases hρ';rfl⟩) hmi (fun _=> .inr (hv w2)) (by simp[HV.men,HV.menL]) hdd;rw[hdst]at this⊢;rw[Nat.zero_add,←hw2]at hrun;exact⟨_,w2,_,_,.inl (by simp[execOp,hop,h2,hrun,Result.andThen]),hnext j hj hc,⟨_,this.weaken (fun j hj=>by omega)⟩⟩
theorem bN8 {o:Oper}{x:Operand}{d it id:Nat}{l:List (Int×List UInt8)}{seen:Array Nat}{j:Nat}(hj:j<l.length)(hd:gO n ops=true)(ho:ops[i]? =some o)(hg:o.guard=none)(hop:o.op= .entry x)(hdst:o.dst=some d)
  (hx:ev fr x= .ptr it 0) (hit:ob it=some (.it id l.length (seen.push j) l.length)) (hid:ob id=some (.raw (gJ l) l.length))
  (h:Lx P n k ops nx Kf (i+1) (upd fr d (.tup [.c (.int .i64 l[j].1),.c (.str l[j].2)])) ob):Lx P n k ops nx Kf i fr ob:=by
 refine wH hd ho hg (by rw[hop];intro c hc;cases hc) fun c a w ρ hA hdd=>?_;obtain⟨b,bm,h1,h2,h3,h4,h5⟩:=cE3 hA hx hit hid;have hnd: ∀(b0:Nat) (l:List (Int×List UInt8)),((esL b0 l).map (·.born)).Nodup∧ ∀y∈(esL b0 l).map (·.born),b0≤y:=by
  intro b0 l;induction l generalizing b0 with
  |nil=>simp[esL]
  |cons y l ih=>
   obtain⟨i1,i2⟩:=ih (b0+1);refine⟨?_,?_⟩
   · simp only[esL,List.map_cons,List.nodup_cons];exact⟨fun hin=>by have:=i2 _ hin;omega,i1⟩
   ·
    simp only[esL,List.map_cons,List.mem_cons];rintro z (rfl|hz)
    · exact Nat.le_refl _
    · have:=i2 z hz;omega
 have hin:=bK8 0 l j hj;have hrun:=run_entry_at (P:=P) w b bm l.length seen (gJ l) l.length ⟨.int .i64 l[j].1,.string ⟨l[j].2.toArray⟩,0+j⟩ (by simpa using h3) h4 (by simpa[gJ]using hin) (by simpa[gJ]using(hnd 0 l).1);have:=hA.value (d:=o.dst) (.inr (bX6 l[j].1 l[j].2)) (by simp[HV.men,HV.menL]) hdd;rw[hdst]at this⊢;exact⟨_,_,_,_,.inl (by simp[execOp,hop,h2,hrun,Result.andThen]),h,⟨_,this.weaken (fun j hj=>by omega)⟩⟩
end
end Go.Hl
namespace Go.Pl
open Go Go.Hl
def dV (c:UInt8):Bool:=decide ((33:Int)≤c.toNat)&&decide ((c.toNat:Int)≤125)&&((c.toNat:Int) !=37)
def pG (n:Nat):UInt8:=([48,49,50,51,52,53,54,55,56,57,65,66,67,68,69,70]:List UInt8).getD n 0
def mH (c:UInt8):List UInt8:=if dV c then [c]else [37,pG (c.toNat/16),pG (c.toNat%16)]
def dA (w:aH):aH:=w.flatMap mH
def lY (w:aH):aH:=if w=[]then [126]else dA w
def sizeW (w:aH):Nat:=max (dA w).length 1
@[simp] theorem cK4 :dA []=[]:=rfl
theorem bX8 (c:UInt8):(mH c).length≤3:=by grind[mH]
theorem bN9 (c:UInt8):1≤(mH c).length:=by grind[mH]
theorem wI (w:aH):(dA w).length≤3*w.length:=by
 induction w with
 |nil=>simp_all
 |cons c w ih=>
  grind[bX8,dA,List.length_append,List.length_cons]
theorem aK4 (w:aH):w.length≤(dA w).length:=by
 induction w with
 |nil=>grind
 |cons c w ih=>
  grind[bN9,dA,List.length_append,List.length_cons]
variable {i:Nat}
theorem wJ {w:aH}(h:i<w.length):dA (w.take (i+1))=dA (w.take i)++mH w[i]:=by
 simp only[List.take_succ_eq_append_getElem h,dA,List.flatMap_append,List.flatMap_cons,List.flatMap_nil,List.append_nil]
theorem oO (w:aH)(i:Nat):(dA (w.take i)).length≤(dA w).length:=by
 have:dA w=dA (w.take i)++dA (w.drop i):=by simp[dA,←List.flatMap_append]
 grind
theorem wK (w:aH):(lY w).length=sizeW w:=by
 unfold lY sizeW;split
 · simp_all
 · rename_i h;have:=aK4 w;grind[List.length_pos_iff]
theorem eJ (w:aH):sizeW w≤3*w.length+1:=by grind[wI,sizeW]
theorem bD9 (w:aH):1≤sizeW w:=by unfold sizeW;omega
theorem cP1 (n:Nat):(if(1:Int)>(n:Int)then(1:Int)else(n:Int))=((max n 1:Nat):Int):=by split<;>omega
theorem cP2 (c:UInt8):Int.fdiv (c.toNat:Int) (2^(min 4 IntKind.u8.bits))=((c.toNat/16:Nat):Int):=by
 rw[show min 4 IntKind.u8.bits=4 from rfl,Int.fdiv_eq_ediv_of_nonneg _ (by omega)];rfl
theorem cL7 (c:UInt8):IntKind.u8.wrap ((BitVec.ofInt IntKind.u8.bits (c.toNat:Int)&&&BitVec.ofInt IntKind.u8.bits 15).toNat:Int)=((c.toNat%16:Nat):Int):=by
 have h:=c.toNat_lt;have:(BitVec.ofInt IntKind.u8.bits (c.toNat:Int)&&&BitVec.ofInt IntKind.u8.bits 15).toNat=c.toNat%16:=by
  rw[BitVec.toNat_and];have e1:(BitVec.ofInt IntKind.u8.bits (c.toNat:Int)).toNat=c.toNat:=by simp[IntKind.bits]
  have e2:(BitVec.ofInt IntKind.u8.bits 15).toNat=15:=rfl;rw[e1,e2];exact Nat.and_two_pow_sub_one_eq_mod _ 4
 grind[IntWalk.u8_in]
theorem cL : ∀bs:List UInt8,CV.denilL (bs.map eG)=bs.map eG
 |[]=>rfl
 |b::bs=>by simp only[List.map_cons,CV.denilL,cL bs];rfl
def jB :List aH→aH
 |[]=>[]
 |w::l=>lY w++l.flatMap fun v=>32::lY v
theorem bE0 (l:List aH)(w:aH):jB (l++[w])=jB l++((if l=[]then []else [32])++lY w):=by
 cases l with
 |nil=>simp[jB]
 |cons a l=>simp[jB]
variable {l:List aH}
theorem bE1 (h:i<l.length):jB (l.take (i+1))=jB (l.take i)++((if i=0 then []else [32])++lY l[i]):=by grind[List.take_succ_eq_append_getElem,bE0,List.take_eq_nil_iff]
def aK5 (l:List aH):aH:=jB l++[10]
def jC (ls:List (List aH)):aH:=ls.flatMap aK5
def fZ (l:List aH):Nat:=(l.map fun w=>sizeW w+1).sum
def sumD (ls:List (List aH)):Nat:=(ls.map fZ).sum
theorem aK6 : ∀(l:List aH),l≠[]→(jB l).length+1=fZ l
 |[],h=>absurd rfl h
 |w::l,_=>by
  have: ∀l:List aH,(l.flatMap fun v=>32::lY v).length=fZ l:=by
   intro l;induction l with
   |nil=>rfl
   |cons v l ih=>grind[List.length_append,List.length_cons,wK,fZ]
  grind[jB,List.length_append,wK,fZ]
theorem bO0 (h:l≠[]):(aK5 l).length=fZ l:=by grind[aK5,List.length_append,aK6]
theorem bX9 (l:List aH):(jB l).length≤fZ l:=by
 cases l with
 |nil=>simp[jB]
 |cons w l=>grind[aK6]
theorem wL : ∀{ls:List (List aH)},(∀l∈ls,l≠[])→(jC ls).length=sumD ls
 |[],_=>rfl
 |l::ls,h=>by
  have ih:=wL (ls:=ls) fun x hx=>h x (List.mem_cons_of_mem _ hx);grind[bO0,List.mem_cons_self,jC,sumD,List.length_append]
variable {ls:List (List aH)}
theorem bE2 (h:i<ls.length):jC (ls.take (i+1))=jC (ls.take i)++aK5 ls[i]:=by
 simp only[List.take_succ_eq_append_getElem h,jC,List.flatMap_append,List.flatMap_cons,List.flatMap_nil,List.append_nil]
theorem bE3 (h:i<l.length):fZ (l.take (i+1))=fZ (l.take i)+(sizeW l[i]+1):=by
 simp only[List.take_succ_eq_append_getElem h,fZ,List.map_append,List.sum_append,List.map_cons,List.map_nil,List.sum_cons,List.sum_nil,Nat.add_zero]
theorem bE4 (h:i<ls.length):sumD (ls.take (i+1))=sumD (ls.take i)+fZ ls[i]:=by
 simp only[List.take_succ_eq_append_getElem h,sumD,List.map_append,List.sum_append,List.map_cons,List.map_nil,List.sum_cons,List.sum_nil,Nat.add_zero]
@[simp] theorem cL8 :jC []=[]:=rfl
@[simp] theorem cL9 :jB []=[]:=rfl
@[simp] theorem cM0 :fZ []=0:=rfl
@[simp] theorem cM1 :sumD []=0:=rfl
theorem qS (l:List aH)(i:Nat):fZ (l.take i)≤fZ l:=by grind[fZ,List.take_append_drop]
theorem aE0 (l:List (List aH))(i:Nat):sumD (l.take i)≤sumD l:=by grind[sumD,List.take_append_drop]
def sQ (l:List aH):Int:=
 if l.length=0 then 1 else if 120<l.length then 3 else if l.any (fun w=>decide (32768<w.length))then 3 else 0
def okL (l:List aH):Bool:=sQ l==0
theorem kJ (l:List aH):okL l=true↔l≠[]∧l.length≤120∧ ∀w∈l,w.length≤32768:=by
 unfold okL sQ;constructor
 ·
  intro h;split at h
  · grind
  ·
   split at h
   · grind
   · grind
 grind
theorem aX6 (h:okL l=true):fZ l≤11796720:=by
 obtain⟨-,h1,h2⟩:=(kJ l).1 h;have key: ∀l:List aH,(∀w∈l,w.length≤32768)→fZ l≤98306*l.length:=by
  intro l;induction l with
  |nil=>simp_all
  |cons w l ih=>
   grind[List.mem_cons_of_mem,List.mem_cons_self,eJ,fZ,List.length_cons]
 grind
theorem bY0 (h: ∀l∈ls,okL l=true):sumD ls≤11796720*ls.length:=by
 induction ls with
 |nil=>simp_all
 |cons l ls ih=>
  grind[List.mem_cons_of_mem,aX6,List.mem_cons_self,sumD,List.length_cons]
def pH (ls:List (List aH)):Int:=
 if 1000<ls.length then 3 else match ls.find? (fun l=>!okL l)with
  |some l=>sQ l
  |none=>if 262144<(jC ls).length then 3 else 0
def uN (ls:List (List aH)):aH:=if pH ls=0 then jC ls else []
theorem bE5 (h:1000<ls.length):pH ls=3:=by unfold pH;grind
theorem bO1 (h:ls.length≤1000)(hi:i<ls.length)(h0: ∀l∈ls.take i,okL l=true)(h1:okL ls[i]=false):pH ls=sQ ls[i]:=by
 unfold pH;rw[if_neg (by omega)];grind[okL,List.find?_eq_some_iff_append,List.getElem_cons_drop,List.take_append_drop]
theorem bY1 (h:ls.length≤1000)(h0: ∀l∈ls,okL l=true):pH ls=if 262144<(jC ls).length then 3 else 0:=by
 unfold pH;grind
theorem bY2 (h:okL l=false):sQ l≠0:=by grind[okL]
theorem wM (h:pH ls≠0):uN ls=[]:=by unfold uN;grind
theorem aX7 (h:pH ls=0):uN ls=jC ls:=by unfold uN;grind
def mE (n:Nat):UInt8:=([48,49,50,51,52,53,54,55,56,57,97,98,99,100,101,102]:List UInt8).getD n 0
def bO2 (c:UInt8):List UInt8:=[mE (c.toNat/16),mE (c.toNat%16)]
def iJ (bs:List UInt8):List UInt8:=bs.flatMap bO2
@[simp] theorem cM2 :iJ []=[]:=rfl
theorem lG (bs:List UInt8):(iJ bs).length=2*bs.length:=by
 induction bs with
 |nil=>rfl
 |cons c bs ih=>grind[iJ,List.length_append,List.length_cons,bO2,List.length_nil]
theorem bE6 {bs:List UInt8}(h:i<bs.length):iJ (bs.take (i+1))=iJ (bs.take i)++bO2 bs[i]:=by
 simp only[List.take_succ_eq_append_getElem h,iJ,List.flatMap_append,List.flatMap_cons,List.flatMap_nil,List.append_nil]
end Go.Pl
namespace Go.Hl
open Go Go.Pl
variable {fn:Func}{f:FuncId}{P:Program}
theorem zE {e:Array Value→Sem Value}{args:List CV}{R:CV→Prop}(hf:P.funcs[f]? =some fn)(hname:(fn.name== "runtime.NumGoroutine")=false)
  (hb:fn.body.isNone=true) (hn:Extern.findNext fn=none) (he:Extern.find fn=some e)
  (h: ∀(w:World) (ρ:Env) (O:Nat→Prop) (xs:List Value),RepHV w ρ O (args.map .c) xs→ ∃v x,R v∧RepV w ρ O (.c v) x∧(e xs.toArray).run P w= .ok x w):dF P f args R:=by
 refine⟨by grind[bB2],fun w ρ X xs hS hA hX=> .inr ⟨by grind[eF,Option.isNone_iff_eq_none],?_⟩⟩;obtain⟨v,x,hR,hv,hrun⟩:=h w ρ _ xs hA;refine⟨x,by simp_all[run_callFunc_extern],.c v,cW,ρ,x,rfl,⟨v,rfl,hR,rfl⟩,⟨hv,hS,by simp[HV.men],fun id o h=>by simp[cW]at h,Stay2.refl _ _,Moves.refl _ _⟩⟩
theorem aX8 {w:World}{O:Nat→Prop}: ∀{l:List UInt8} {xs:List Value},RepL w O (l.map u8) xs→xs=l.map fun b=> .int .u8 (b.toNat:Int)
 |[],xs,h=>by simpa[RepL]using h
 |b::l,xs,h=>by
  simp only[List.map_cons,RepL,u8,RepC]at h;obtain⟨c1,c2,rfl,rfl,h2⟩:=h;rw[aX8 h2];rfl
variable {x:Value}{l:List UInt8}{O:Nat→Prop}{ρ:Env}{w:World}
theorem sS (h:RepV w ρ O (.c (.slc (l.map u8))) x):(Extern.Bytes.bytesOf x).run P w= .ok ⟨l.toArray⟩ w:=by
 have h1:=h.single rfl;simp only[RepC,List.cons.injEq,and_true]at h1;obtain⟨a,cap,xs,sz,rfl,h2,_,h4,h5,h6⟩:=h1;have hx:=aX8 h2;cases a with
 |none=>
  have:=h5 rfl;have hl:l=[]:=by
   have:l.length=0:=by simp only[List.length_map]at h4;omega
   exact List.eq_nil_of_length_eq_zero this
  subst hl;simp only[Extern.Bytes.bytesOf,Sem.run_pure];rfl
 |some ad=>
  have hr:=(h6 ad rfl).1;have:=Go.Lib.run_loadBytesX (P:=P) w (l.map fun b=>(b.toNat:Int)) ad .empty (fun j y hj=>hr j _ (by
   rw[hx];rw[List.getElem?_map]at hj⊢;cases hb:l[j]? with
   |none=>rw[hb]at hj;cases hj
   |some b=>rw[hb]at hj;cases hj;rfl))
  simp only[List.length_map]at this;simp only[Extern.Bytes.bytesOf,List.length_map,this];congr 2;simp only[Go.Lib.bytesOf,List.map_map];have e:l.map ((fun n:Int=>n.toNat.toUInt8)∘fun b:UInt8=>(b.toNat:Int))=l:=by
   conv=>rhs;rw[←List.map_id l]
   exact List.map_congr_left fun b _=>by simp
  rw[e];simp
def jR (a b:List UInt8):Int:=if slt a b then-1 else if a==b then 0 else 1
def bO3 (a b:List UInt8):Int:=
 match(List.range (min a.length b.length)).find? fun i=>a.getD i 0 !=b.getD i 0 with
 |some i=>if a.getD i 0<b.getD i 0 then-1 else 1
 |none=>if a.length<b.length then-1 else if a.length>b.length then 1 else 0
theorem wN {p:Nat→Bool}(n:Nat):(List.range (n+1)).find? p=if p 0 then some 0 else((List.range n).find? fun i=>p (i+1)).map (· +1):=by
 rw[List.range_succ_eq_map,List.find?_cons,List.find?_map];split<;>simp_all[Function.comp];rfl
theorem aX9 : ∀a b:List UInt8,bO3 a b=jR a b
 |[],[]=>rfl
 |[],b::l=>by simp[bO3,jR,slt,Op.bytesLess]
 |a::l,[]=>by simp[bO3,jR,slt,Op.bytesLess]
 |a::l,b::m=>by
  have ih:=aX9 l m;have hmin:min (a::l).length (b::m).length=min l.length m.length+1:=by simp only[List.length_cons];omega
  unfold bO3 at ih⊢;rw[hmin,wN];by_cases hab:a=b
  · subst hab;simp only[List.getD_cons_zero,bne_self_eq_false,Bool.false_eq_true,if_false,List.getD_cons_succ];grind[jR,slt,Op.bytesLess,List.range,min]
  simp_all[List.getD_cons_zero,if_true,jR,slt,Op.bytesLess]
variable {y:Value}
theorem bY3 {a b:List UInt8}(ha:RepV w ρ O (.c (.slc (a.map u8))) x)(hb:RepV w ρ O (.c (.slc (b.map u8))) y):
  (Extern.BytealgCompare.compare #[x,y]).run P w= .ok (.int .i64 (jR a b)) w:=by
 change (Sem.run P (do pure (goInt (Extern.BytealgCompare.cmp (←Extern.Bytes.bytesOf x) (←Extern.Bytes.bytesOf y)))) w)=_;simp only[Sem.run_bind,sS ha,sS hb,Result.andThen_ok,Sem.run_pure,goInt];rw[←aX9];grind[ByteArray.size,Go.Lib.get!_eq,Extern.BytealgCompare.cmp,bO3,List.find?]
def fT (l:List UInt8)(c:UInt8):Int:=match l.findIdx? (· ==c)with|some i=>(i:Int)|none=> -1
theorem aK7 {α:Type}{p:α→Bool}(d:α): ∀(l:List α),(List.range l.length).find? (fun i=>p (l.getD i d))=l.findIdx? p
 |[]=>rfl
 |a::l=>by
  rw[List.length_cons,wN,List.findIdx?_cons];simp only[List.getD_cons_zero,List.getD_cons_succ];rw[aK7 d l]
variable {c:UInt8}
theorem aY0 (hx:(Extern.Bytes.bytesOf x).run P w= .ok ⟨l.toArray⟩ w)(hy:(Extern.Bytes.asByte y).run P w= .ok c w):
  (Extern.BytealgIndexByte.indexByte #[x,y]).run P w= .ok (.int .i64 (fT l c)) w:=by
 change (Sem.run P (do
  let b←Extern.Bytes.bytesOf x
  let c←Extern.Bytes.asByte y
  match(List.range b.size).find? fun i=>b[i]! ==c with
  |some i=>pure (goInt i)
  |none=>pure (goInt (-1))) w)=_
 simp only[Sem.run_bind,hx,hy,Result.andThen_ok];have h1:(⟨l.toArray⟩:ByteArray).size=l.length:=by simp[ByteArray.size]
 have h2: ∀i:Nat,(⟨l.toArray⟩:ByteArray)[i]! =l.getD i 0:=fun i=>by exact Go.Lib.get!_eq l i
 simp only[h1,h2,aK7 (p:=fun b=>b==c)];unfold fT;cases l.findIdx? fun b=>b==c<;>rfl
theorem wO (h:RepV w ρ O (.c (u8 c)) y):(Extern.Bytes.asByte y).run P w= .ok c w:=by
 have h1:=h.single rfl;simp_all[u8,RepC,List.cons.injEq,and_true,Extern.Bytes.asByte]
theorem cG8 (hf:P.funcs[f]? =some fn)(hname:(fn.name== "runtime.NumGoroutine")=false)(hb:fn.body.isNone=true)(hn:Extern.findNext fn=none)
  (he:Extern.find fn=some Extern.BytealgIndexByte.indexByte) (l:List UInt8) (c:UInt8):dF P f [.slc (l.map u8),u8 c] (fun v=>v= .int .i64 (fT l c)):=
 zE hf hname hb hn he fun w ρ O xs h=>by
  simp only[List.map_cons,List.map_nil,bP,RepHV]at h;obtain⟨x,l1,rfl,hx,y,l2,rfl,hy,rfl⟩:=h;exact⟨_,_,rfl,eB _ _ _ _ _,aY0 (sS hx) (wO hy)⟩
theorem bY4 (hf:P.funcs[f]? =some fn)(hname:(fn.name== "runtime.NumGoroutine")=false)(hb:fn.body.isNone=true)(hn:Extern.findNext fn=none)
  (he:Extern.find fn=some Extern.BytealgIndexByte.indexByte) (l:List UInt8) (c:UInt8):dF P f [.str l,u8 c] (fun v=>v= .int .i64 (fT l c)):=
 zE hf hname hb hn he fun w ρ O xs h=>by
  simp only[List.map_cons,List.map_nil,bP,RepHV]at h;obtain⟨x,l1,rfl,hx,y,l2,rfl,hy,rfl⟩:=h;have hx':(Extern.Bytes.bytesOf x).run P w= .ok ⟨l.toArray⟩ w:=by
   have h1:=hx.single rfl;simp only[RepC,List.cons.injEq,and_true]at h1;subst h1;rfl
  exact⟨_,_,rfl,eB _ _ _ _ _,aY0 hx' (wO hy)⟩
end Go.Hl
namespace Go.Pl
open Go Go.Hl
def bI (c:UInt8):List UInt8→List (List UInt8)
 |[]=>[[]]
 |b::l=>if b=c then []::bI c l else match bI c l with
  |x::xs=>(b::x)::xs
  |[]=>[[b]]
theorem gR (c:UInt8)(l:List UInt8):bI c l≠[]:=by
 cases l with
 |nil=>simp[bI]
 |cons b l=>grind[bI]
theorem pI (c:UInt8): ∀l:List UInt8,match l.findIdx? (· ==c)with
  |some i=>i<l.length∧bI c l=l.take i::bI c (l.drop (i+1))
  |none=>bI c l=[l]
 |[]=>rfl
 |b::l=>by
  have ih:=pI c l;rw[List.findIdx?_cons];by_cases h:b=c
  · grind[bI]
  ·
   have hb:(b==c)=false:=by simpa using h
   simp only[hb,Bool.false_eq_true,if_false];cases hf:l.findIdx? (· ==c)with
   |none=>
    simp_all[Option.map_none,bI,if_neg]
   |some i=>
    simp_all[Option.map_some,bI,if_neg,List.length_cons,List.take_succ_cons,List.drop_succ_cons,trivial]
variable {c:UInt8}
theorem qT {l:List UInt8}(h:fT l c<0):bI c l=[l]:=by
 have:=pI c l;grind[fT]
theorem iQ {l:List UInt8}(h: ¬fT l c<0): ∃i:Nat,fT l c=(i:Int)∧i<l.length∧bI c l=l.take i::bI c (l.drop (i+1)):=by
 have:=pI c l;unfold fT at h⊢;grind
theorem kU (c:UInt8): ∀l:List UInt8,(bI c l).length≤l.length+1
 |[]=>by simp[bI]
 |b::l=>by
  have ih:=kU c l;grind[bI,List.length_cons]
theorem wP (c:UInt8): ∀(l:List UInt8),∀p∈bI c l,p.length≤l.length
 |[],p,hp=>by grind[bI]
 |b::l,p,hp=>by
  have ih:=wP c l;unfold bI at hp;split at hp
  · grind
  ·
   split at hp
   · grind
   grind
def valH (c:UInt8):Nat:=if 48≤c.toNat∧c.toNat≤57 then c.toNat-48 else if 65≤c.toNat∧c.toNat≤70 then c.toNat-55 else 16
def byteH (x y:UInt8):UInt8:=UInt8.ofNat (16*valH x+valH y)
def okH (x y:UInt8):Bool:=decide (valH x<16)&&decide (valH y<16)&&!dV (byteH x y)
def unB :List UInt8→Option aH
 |[]=>some []
 |c::l=>if dV c then(unB l).map (c::·)else if c=37 then match l with
   |x::y::l'=>if okH x y then(unB l').map (byteH x y::·)else none
   |_=>none
  else none
def unW (s:aH):Option aH:=if s=[126]then some []else if s=[]then none else unB s
variable {l:aH}
theorem zF {c:UInt8}(h:dV c=true):unB (c::l)=(unB l).map (c::·):=by
 rw[unB.eq_def];grind
theorem bY5 {c:UInt8}(h:dV c=false)(h1:c≠37∨l.length<2):unB (c::l)=none:=by
 rw[unB.eq_def];grind
theorem aY1 {x y:UInt8}(h:okH x y=true):unB (37::x::y::l)=(unB l).map (byteH x y::·):=by
 rw[unB.eq_def];simp_all[dV,Bool.false_eq_true,if_false,if_true]
theorem aK8 {x y:UInt8}(h:okH x y=false):unB (37::x::y::l)=none:=by simp_all[unB.eq_def,dV,Bool.false_eq_true,if_false,if_true]
def bY6 :List UInt8:=[48,49,50,51,52,53,54,55,56,57,65,66,67,68,69,70]
set_option maxRecDepth 20000 in
theorem qU (c:UInt8):fT bY6 c=if valH c<16 then(valH c:Int)else-1:=by
 have h: ∀n:Fin 256,fT bY6 (UInt8.ofNat n.1)=if valH (UInt8.ofNat n.1)<16 then(valH (UInt8.ofNat n.1):Int)else-1:=by decide
 have:=h ⟨c.toNat,c.toNat_lt⟩;simp_all
theorem bE7 {x y:UInt8}(hx:valH x<16)(hy:valH y<16):(byteH x y).toNat=16*valH x+valH y:=by grind[byteH,UInt8.toNat_ofNat']
def UnSt (s:aH)(i:Nat)(out:aH):Prop:=i≤s.length∧unB s=(unB (s.drop i)).map (out++·)∧(out=[]→i=0)∧out.length≤i
section
variable {s:aH}{i:Nat}{out:aH}
theorem UnSt.init (s:aH):UnSt s 0 []:=⟨Nat.zero_le _,by simp,fun _=>rfl,Nat.le_refl _⟩
theorem UnSt.plain (h:UnSt s i out)(hi:i<s.length)(hp:dV s[i]=true):UnSt s (i+1) (out++[s[i]]):=by
 obtain⟨_,h2,_,h4⟩:=h;refine⟨hi,?_,by simp,by grind⟩;rw[h2,List.drop_eq_getElem_cons hi,zF hp,Option.map_map];congr 1;grind
theorem UnSt.bad1 (h:UnSt s i out)(hi:i<s.length)(hp:dV s[i]=false)(h1:s[i]≠37∨s.length≤i+2):unB s=none:=by
 rw[h.2.1,List.drop_eq_getElem_cons hi,bY5 hp (h1.imp id fun h=>by grind)];rfl
theorem cE4 {s:aH}{i:Nat}(hi:i+2<s.length):s.drop i=s[i]::s[i+1]::s[i+2]::s.drop (i+3):=by
 rw[List.drop_eq_getElem_cons (show i<s.length by omega),List.drop_eq_getElem_cons (show i+1<s.length by omega),List.drop_eq_getElem_cons hi]
theorem UnSt.esc (h:UnSt s i out)(hi:i+2<s.length)(h37:s[i]=37)(hok:okH s[i+1] s[i+2]=true):UnSt s (i+3) (out++[byteH s[i+1] s[i+2]]):=by
 obtain⟨_,h2,_,h4⟩:=h;refine⟨hi,?_,by simp,by simp;omega⟩;rw[h2,cE4 hi,h37,aY1 hok,Option.map_map];congr 1;funext l;simp
theorem UnSt.bad2 (h:UnSt s i out)(hi:i+2<s.length)(h37:s[i]=37)(hok:okH s[i+1] s[i+2]=false):unB s=none:=by
 rw[h.2.1,cE4 hi,h37,aK8 hok];rfl
theorem nD (h:unB s=none)(h1:s≠[126]):unW s=none:=by simp_all[unW,if_neg]
theorem UnSt.fin (h:UnSt s i out)(hi:i=s.length)(h1:s≠[126]):unW s=if out=[]then none else some out:=by
 subst hi;obtain⟨_,h2,h3,h4⟩:=h;rw[List.drop_length]at h2;unfold unW;rw[if_neg h1];by_cases ho:out=[]
 · grind
 ·
  have hs:s≠[]:=by
   rintro rfl;simp only[List.length_nil,Nat.le_zero]at h4;exact ho (List.eq_nil_of_length_eq_zero h4)
  simp_all[if_neg,unB]
end
def CutR (l:List UInt8)(c:UInt8)(li re:List UInt8)(fd:Bool):Prop:=
 (fd=false∧fT l c<0∧li=l∧re=[])∨(fd=true∧ ∃i:Nat,fT l c=(i:Int)∧i<l.length∧li=l.take i∧re=l.drop (i+1))
def unL (r:aH):Option (List aH):=(bI 32 r).mapM unW
def unR (r:aH):Option (List aH):=match unL r with|some ws=>if okL ws then some ws else none|none=>none
def iK (b:aH):Option (List (List aH)):=
 if b=[]then some []else if(bI 10 b).getLast (gR 10 b)=[]then(bI 10 b).dropLast.mapM unR else none
variable {li re:aH}
theorem aK9 (hc:CutR l 10 li re true):iK l=(unR li).bind fun ws=>(iK re).map (ws::·):=by
 rcases hc with⟨h,_⟩|⟨_,i,h1,h2,rfl,rfl⟩
 · cases h
 ·
  obtain⟨i',h3,_,hsp⟩:=iQ (l:=l) (c:=10) (by omega);have:i'=i:=by omega
  subst this;have hne:l≠[]:=by rintro rfl;simp at h2
  have hd:iK l=if(bI 10 (l.drop (i'+1))).getLast (gR 10 _)=[]then(l.take i'::(bI 10 (l.drop (i'+1))).dropLast).mapM unR else none:=by
   unfold iK;rw[if_neg hne];simp only[hsp];grind[List.getLast_cons,gR,List.dropLast_cons_of_ne_nil]
  rw[hd];have he:iK (l.drop (i'+1))=if(bI 10 (l.drop (i'+1))).getLast (gR 10 _)=[]then(bI 10 (l.drop (i'+1))).dropLast.mapM unR else none:=by
   unfold iK;split
   · rename_i h;rw[h];rfl
   · rfl
  rw[he];split
  ·
   rw[List.mapM_cons];cases unR (l.take i')with
   |none=>rfl
   |some ws=>cases(bI 10 (l.drop (i'+1))).dropLast.mapM unR<;>rfl
  simp_all
theorem wQ (hc:CutR l 10 li re false)(hne:l≠[]):iK l=none:=by
 rcases hc with⟨_,h,_⟩|⟨h,_⟩
 all_goals simp_all[iK,if_neg,qT,List.getLast_singleton]
variable {fd:Bool}
theorem bO4 (hc:CutR l 10 li re fd)(hne:l≠[])(h:unR li=none):iK l=none:=by
 cases fd with
 |false=>exact wQ hc hne
 |true=>rw[aK9 hc,h];rfl
theorem CutR.lt (hc:CutR l c li re fd)(hne:l≠[]):re.length<l.length∧li.length≤l.length:=by
 have:0<l.length:=List.length_pos_iff.2 hne;rcases hc with⟨_,_,rfl,rfl⟩|⟨_,i,_,h,rfl,rfl⟩
 all_goals grind
def wsT (r:aH)(i:Nat):List aH:=((bI 32 r).take i).map fun p=>(unW p).getD []
def bO5 (r:aH)(i:Nat):Prop:= ∀p∈(bI 32 r).take i,(unW p).isSome=true
variable {i:Nat}{r:aH}
theorem bO6 (h:i<(bI 32 r).length):wsT r (i+1)=wsT r i++[(unW (bI 32 r)[i]).getD []]:=by
 simp only[wsT,List.take_succ_eq_append_getElem h,List.map_append,List.map_cons,List.map_nil]
theorem wR (h:i≤(bI 32 r).length):(wsT r i).length=i:=by grind[wsT,List.length_map,List.length_take]
theorem bE8 (h:i<(bI 32 r).length)(h1:bO5 r i)(h2:(unW (bI 32 r)[i]).isSome=true):bO5 r (i+1):=by
 intro p hp;rw[List.take_succ_eq_append_getElem h,List.mem_append,List.mem_singleton]at hp;rcases hp with hp|rfl
 · exact h1 p hp
 · exact h2
theorem zG {α β:Type}{f:α→Option β}: ∀{l:List α} {x:α},x∈l→f x=none→l.mapM f=none
 |a::l,x,hx,h=>by
  rw[List.mapM_cons];rcases List.mem_cons.1 hx with rfl|hx
  · grind
  · rw[zG hx h];simp_all
theorem aL0 {α β:Type}{f:α→Option β}(d:β): ∀{l:List α},(∀x∈l,(f x).isSome=true)→l.mapM f=some (l.map fun x=>(f x).getD d)
 |[],_=>rfl
 |a::l,h=>by
  rw[List.mapM_cons,aL0 d fun x hx=>h x (List.mem_cons_of_mem _ hx)];grind[Option.isSome_iff_exists,List.mem_cons_self]
theorem bO7 (h:i<(bI 32 r).length)(h2:(unW (bI 32 r)[i]).isSome=false):unR r=none:=by
 unfold unR unL;rw[zG (List.getElem_mem h) (by simpa using h2)]
theorem bY7 (h:bO5 r (bI 32 r).length):unR r=if okL (wsT r (bI 32 r).length)then some (wsT r (bI 32 r).length)else none:=by
 unfold bO5 at h;rw[List.take_length]at h;unfold unR unL;rw[aL0 [] h];simp only[wsT,List.take_length]
def DecSt (b rest:aH)(ls:List (List aH)):Prop:=iK b=(iK rest).map (ls++·)∧rest.length≤b.length∧ls.length+rest.length≤b.length
theorem DecSt.init (b:aH):DecSt b b []:=⟨by simp,Nat.le_refl _,by simp⟩
variable {ls:List (List aH)}{b rest:aH}
theorem DecSt.bad (h:DecSt b rest ls)(hc:CutR rest 10 li re fd)(hne:rest≠[])(hb:unR li=none):iK b=none:=by
 rw[h.1,bO4 hc hne hb];rfl
theorem DecSt.bad0 (h:DecSt b rest ls)(hc:CutR rest 10 li re false)(hne:rest≠[]):iK b=none:=by
 rw[h.1,wQ hc hne];rfl
theorem DecSt.next (h:DecSt b rest ls)(hc:CutR rest 10 li re true)(hne:rest≠[]){ws:List aH}(hb:unR li=some ws):DecSt b re (ls++[ws]):=by
 have hl:=hc.lt hne;obtain⟨h1,h2,h3⟩:=h;refine⟨?_,by omega,by grind⟩;rw[h1,aK9 hc,hb];cases iK re with
 |none=>rfl
 |some l=>simp
theorem DecSt.fin (h:DecSt b [] ls):iK b=some ls:=by
 rw[h.1];simp[iK]
def kC (b:aH):Int:=if 262144<b.length then 3 else match iK b with|some ls=>if 1000<ls.length then 2 else 0|none=>2
def lZ (b:aH):List (List aH):=if kC b=0 then(iK b).getD []else []
structure Pt where
 k:Nat
 c:UInt8
def Pt.cv (x:Pt):CV:= .agg [.int .i64 x.k,.int .u8 x.c.toNat]
theorem Pt.cells (x:Pt):x.cv.cells=2:=by simp[Pt.cv,CV.cells,CV.cellsL]
theorem Pt.denil (x:Pt):x.cv.denil=x.cv:=by simp only[Pt.cv,CV.denil,CV.denilL]
theorem Pt.isAgg (x:Pt):x.cv.isAgg=true:=rfl
theorem Pt.getAll (x:Pt):CV.getAt 0 2 true x.cv=some x.cv:=by
 have:=Pt.cells x;simp_all[Pt.cv,CV.cells,CV.getAt,and_self,if_true]
theorem Pt.setAll (x:Pt)(y:HV):CV.setAt 0 2 y x.cv=some y:=by
 have:=Pt.cells x;simp_all[Pt.cv,CV.cells,CV.setAt,and_self,if_true]
theorem Pt.fold (k:Nat)(c:UInt8):CV.agg [.int .i64 k,.int .u8 c.toNat]=Pt.cv ⟨k,c⟩:=rfl
theorem Pt.get_k (x:Pt):CV.getAt 0 1 false x.cv=some (.int .i64 x.k):=by simp[Pt.cv,CV.getAt,CV.getAtL,CV.cells,CV.cellsL]
theorem Pt.get_c (x:Pt):CV.getAt 1 1 false x.cv=some (.int .u8 x.c.toNat):=by simp[Pt.cv,CV.getAt,CV.getAtL,CV.cells,CV.cellsL]
def patP :aH→Option (List Pt)
 |[]=>some []
 |c::l=>if c=0 then none
  else if c=92 then match l with
   |[]=>none
   |d::r=>if d=0 then none else(patP r).map (⟨0,d⟩::·)
  else if c=63 then(patP l).map (⟨1,0⟩::·)
  else if c=42 then match l with
   |[]=>some [⟨2,0⟩]
   |d::r=>if d=42 then(patP r).map (⟨3,0⟩::·)else(patP (d::r)).map (⟨2,0⟩::·)
  else(patP l).map (⟨0,c⟩::·)
def aS7 (p:aH):Option (List Pt):=if p.length<1∨200<p.length then none else patP p
def PatSt (p:aH)(i:Nat)(out:List Pt):Prop:=i≤p.length∧patP p=(patP (p.drop i)).map (out++·)∧out.length≤i∧ ∀x∈out,x.k≤3
theorem PatSt.init (p:aH):PatSt p 0 []:=⟨by omega,by simp,by simp,by simp⟩
section
variable {p:aH}{i:Nat}{out:List Pt}
theorem PatSt.fin (h:PatSt p i out)(hi:i=p.length):patP p=some out:=by
 rw[h.2.1,hi,List.drop_length,patP.eq_def];simp
theorem PatSt.step (h:PatSt p i out){k:Nat}{x:Pt}(hk:i+k≤p.length)(h0:1≤k)(hx:x.k≤3)(he:patP (p.drop i)=(patP (p.drop (i+k))).map (x::·)):PatSt p (i+k) (out++[x]):=by
 refine⟨hk,?_,by have:=h.2.2.1;grind,fun y hy=>?_⟩
 · rw[h.2.1,he,Option.map_map];congr 1;grind
 ·
  rcases List.mem_append.1 hy with hy|hy
  · exact h.2.2.2 y hy
  grind
theorem PatSt.bad (h:PatSt p i out)(he:patP (p.drop i)=none):patP p=none:=by rw[h.2.1,he];rfl
end
end Go.Pl
