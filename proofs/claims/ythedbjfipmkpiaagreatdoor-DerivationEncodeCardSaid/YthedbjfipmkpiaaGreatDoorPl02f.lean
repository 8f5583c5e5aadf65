/- Decoded words and documents (2.1, 2.3), in plain Lean. By an AI agent. -/
import Derived.Test.YthedbjfipmkpiaaGreatDoorPl18e
import Derived.WalkKit
import Derived.ProofKit
import Derived.OpenShut
import Derived.ReadAgain
import Derived.ChangeBears
import Derived.Test.YthedbjfipmkpiaaGreatDoorHdSb
import Derived.Sort.Grow
import Derived.Sort.EncStr
import Derived.Lib.LaidTab
import Derived.Deep.Draws
import Derived.LaidSub
import Derived.Test.YthedbjfipmkpiaaGreatDoorHlEs
import Derived.Maps.RangeRun
import Derived.Test.YthedbjfipmkpiaaGreatDoorHlK
import Derived.Laws.Externs
import Derived.Lib.BytesEntry
set_option linter.unusedSimpArgs false
set_option linter.unusedVariables false
set_option linter.defProp false
namespace Go.Hl
open Go
inductive HasTy (P:Program):TypeId→CV→Prop where
 |bool {t:TypeId} (hu:P.underlying t=some .bool) (b:Bool):HasTy P t (.bool b)
 |int {t:TypeId} {k:IntKind} (hu:P.underlying t=some (.int k)) {n:Int} (hw:(Lit.int k n).wf=true):HasTy P t (.int k n)
 |str {t:TypeId} (hu:P.underlying t=some .string) {s:List UInt8} (hs:s.length≤maxLen):HasTy P t (.str s)
 |slc {t e:TypeId} (hu:P.underlying t=some (.slice e)) {l:List CV} (hl: ∀x∈l,HasTy P e x) (hn:l.length≤maxLen):HasTy P t (.slc l)
 |arr {t e:TypeId} {m:Nat} (hu:P.underlying t=some (.array m e)) {l:List CV} (hl: ∀x∈l,HasTy P e x) (hn:l.length=m):HasTy P t (.agg l)
 |struct {t:TypeId} {fs:Array Field} (hu:P.underlying t=some (.struct fs)) {l:List CV} (hn:l.length=fs.size) (hl: ∀(i:Nat) (f:Field) (x:CV),fs.toList[i]? =some f→l[i]? =some x→HasTy P f.type x):HasTy P t (.agg l)
variable {c:CV}{t:TypeId}{P:Program}
theorem HasTy.of_int {k:IntKind}(hu:P.underlying t=some (.int k))(h:HasTy P t c): ∃n,c= .int k n∧(Lit.int k n).wf=true:=by
 cases h with
 |int h2 hw=>grind
 |bool h2|str h2|slc h2|arr h2|struct h2=>rw[hu]at h2;cases h2
theorem HasTy.of_str (hu:P.underlying t=some .string)(h:HasTy P t c): ∃s,c= .str s∧s.length≤maxLen:=by
 cases h with
 |str h2 hs=>grind
 |int h2|bool h2|slc h2|arr h2|struct h2=>rw[hu]at h2;cases h2
theorem HasTy.of_slc {e:TypeId}(hu:P.underlying t=some (.slice e))(h:HasTy P t c): ∃l,c= .slc l∧(∀x∈l,HasTy P e x)∧l.length≤maxLen:=by
 cases h with
 |slc h2 hl hn=>grind
 |int h2|bool h2|str h2|arr h2|struct h2=>rw[hu]at h2;cases h2
theorem HasTy.of_arr {e:TypeId}{m:Nat}(hu:P.underlying t=some (.array m e))(h:HasTy P t c): ∃l,c= .agg l∧(∀x∈l,HasTy P e x)∧l.length=m:=by
 cases h with
 |arr h2 hl hn=>grind
 |int h2|bool h2|str h2|slc h2|struct h2=>rw[hu]at h2;cases h2
theorem HasTy.of_struct {fs:Array Field}(hu:P.underlying t=some (.struct fs))(h:HasTy P t c):
  ∃l,c= .agg l∧l.length=fs.size∧ ∀(i:Nat) (f:Field) (x:CV),fs.toList[i]? =some f→l[i]? =some x→HasTy P f.type x:=by
 cases h with
 |struct h2 hn hl=>grind
 |int h2|bool h2|str h2|slc h2|arr h2=>rw[hu]at h2;cases h2
def mB (P:Program):Nat→TypeId→Bool
 |0,_=>false
 |n+1,t=>match P.underlying t with
  |some .bool|some (.int _)|some .string=>true
  |some (.slice e)=>mB P n e
  |some (.array _ e)=>mB P n e
  |some (.struct fs)=>fs.toList.all fun f=>mB P n f.type
  |_=>false
theorem mC {α:Type}{w:World}{O:Nat→Prop}{g:α→List Value}{R:α→CV→Prop}: ∀(l:List α),(∀a∈l,∃c,RepC w O c (g a)∧R a c)→
  ∃cl:List CV,RepL w O cl (l.flatMap g)∧cl.length=l.length∧ ∀(i:Nat) a c,l[i]? =some a→cl[i]? =some c→R a c
 |[],_=>⟨[],by simp[RepL],rfl,by simp⟩
 |a::l,h=>by
  obtain⟨c,h1,h2⟩:=h a (by simp);obtain⟨cl,h3,h4,h5⟩:=mC l (fun x hx=>h x (by grind));refine⟨c::cl,by simp only[List.flatMap_cons,RepL];grind,by grind,fun i x y hx hy=>?_⟩;grind
theorem wF {cw:Field→Nat}{cs:List Value}: ∀(fs:List Field) (k:Nat),(∀(j:Nat) f,fs[j]? =some f→f.offset=k+((fs.take j).map cw).sum)→
  fs.flatMap (fun f=>(cs.drop f.offset).take (cw f))=(cs.drop k).take ((fs.map cw).sum)
 |[],k,_=>by simp
 |f::fs,k,h=>by
  have h0:=h 0 f rfl;simp only[List.take_zero,List.map_nil,List.sum_nil,Nat.add_zero]at h0;have ih:=wF (cw:=cw) (cs:=cs) fs (k+cw f) (fun j g hg=>by
   have:=h (j+1) g (by grind);grind)
  grind[List.drop_drop]
theorem wG {cs:List Value}(c:Nat): ∀(m:Nat),(List.range m).flatMap (fun i=>(cs.drop (i*c)).take c)=cs.take (m*c)
 |0=>by simp
 |m+1=>by
  rw[List.range_succ,List.flatMap_append,wG c m];simp_all[List.flatMap_cons,List.flatMap_nil,List.append_nil,List.take_add,Nat.succ_mul]
theorem wH {w:World}{a:Addr}{c:Nat}{g:Nat→List Value}: ∀(m:Nat),(∀i,i<m→(g i).length=c∧ ∀r,r<c→w.cell? ((a.add (i*c)).add r)=(g i)[r]?)→
  ((List.range m).flatMap g).length=m*c∧ ∀j u,((List.range m).flatMap g)[j]? =some u→w.cell? (a.add j)=some u
 |0,_=>by simp
 |m+1,h=>by
  obtain⟨h1,h2⟩:=wH m (fun i hi=>h i (by omega));obtain⟨h3,h4⟩:=h m (by omega);rw[List.range_succ,List.flatMap_append];simp only[List.flatMap_cons,List.flatMap_nil,List.append_nil];refine⟨by rw[List.length_append,h1,h3,Nat.succ_mul],fun j u hj=>?_⟩;grind[List.getElem?_append_left,List.getElem?_append_right,List.getElem?_eq_some_iff,Addr.add_add]
section
variable {H:Type}{enc:TypeId×Value→H}{P:Program}{T:TypeId→Prop}{w:World}{base:Nat}{sp:Nat→Bool}{held:Bool}
theorem qN (K:Kids P T): ∀(m:Nat) (t:TypeId),mB P m t=true→T t→ ∀(n:Nat) (cs:List Value) (x:DataW H×List MemPlace),DataW.trod enc P w base sp held n t cs=some x→
  ∃c,RepC w (fun _=>False) c cs∧HasTy P t c∧cs.length=cs.length
 |0,t,hp,_,_,_,_,_=>by simp[mB]at hp
 |m+1,t,hp,hT,0,cs,x,h=>by simp[DataW.trod]at h
 |m+1,t,hp,hT,n+1,cs,x,h=>by
  unfold mB at hp;split at hp
  ·
   rename_i hu;unfold DataW.trod at h;rw[hu]at h;split at h
   case h_1=>rename_i b h1;exact⟨.bool b,by simp[RepC],.bool hu b,rfl⟩
   all_goals grind
  ·
   rename_i k hu;unfold DataW.trod at h;rw[hu]at h;split at h
   case h_2=>
    rename_i k' k2 n2 h1;cases h1;split at h
    · rename_i hc;obtain⟨rfl,hw⟩:=hc;exact⟨.int _ n2,by simp[RepC],.int hu hw,rfl⟩
    grind
   all_goals grind
  ·
   rename_i hu;unfold DataW.trod at h;rw[hu]at h;split at h
   case h_4=>
    rename_i s h1;split at h
    · rename_i hc;refine⟨.str s.data.toList,by simp[RepC],.str hu ?_,rfl⟩;simp_all
    grind
   all_goals grind
  ·
   rename_i e hu;unfold DataW.trod at h;rw[hu]at h;split at h
   case h_7=>
    rename_i el h1;exact⟨.slc [],by simp only[RepC];exact⟨none,0,[],0,rfl,by simp[RepL],by simp,by simp,fun _=>rfl,fun ad had=>(by grind)⟩,.slc hu (by simp) (by simp),rfl⟩
   case h_8=>
    rename_i e' a len cap h1;cases h1;simp only at h;split at h
    ·
     rename_i hc;obtain⟨hb,hlc,hcm⟩:=hc;rw[Option.bind_eq_some_iff]at h;obtain⟨elems,he,_⟩:=h;have hel: ∀i,i<len→ ∃cl,w.cells? base (a.add (i*P.cellsOf e)) (P.cellsOf e)=some cl∧ ∃y,DataW.trod enc P w base sp held n e cl=some y:=fun i hi=>by
      have:=mapM_some_get he i i (by grind);grind[hlen,mapM_some_length,List.length_range,List.getElem?_eq_getElem,Option.bind_eq_some_iff]
     let g:Nat→List Value:=fun i=>(w.cells? base (a.add (i*P.cellsOf e)) (P.cellsOf e)).getD []
     have hg: ∀i,i<len→(g i).length=P.cellsOf e∧ ∀r,r<P.cellsOf e→w.cell? ((a.add (i*P.cellsOf e)).add r)=(g i)[r]? :=fun i hi=>by
      obtain⟨cl,h3,_⟩:=hel i hi;obtain⟨_,h4,h5⟩:=World.cells?_some h3;grind
     obtain⟨cl,hr,hlen,hty⟩:=mC (w:=w) (O:=fun _=>False) (g:=g) (R:=fun i c=>HasTy P e c∧c.cells=P.cellsOf e) (List.range len) (fun i hi=>by
      have hi':=List.mem_range.1 hi;obtain⟨cl,h3,y,h4⟩:=hel i hi';have hgi:g i=cl:=by simp[g,h3]
      obtain⟨c,q1,q2,_⟩:=qN K m e hp (K.slice hT hu) n cl y h4;grind[bM,World.cells?_some])
     simp only[List.length_range]at hlen;have hmem: ∀x∈cl,HasTy P e x∧x.cells=P.cellsOf e:=fun x hx=>by
      obtain⟨i,hi,rfl⟩:=List.getElem_of_mem hx;exact hty i i _ (List.getElem?_range (by omega)) (by rw[List.getElem?_eq_getElem hi])
     refine⟨.slc cl,?_,.slc hu (fun x hx=>(hmem x hx).1) (by omega),rfl⟩;simp only[RepC];refine⟨some a,cap,_,P.cellsOf e,by rw[hlen],hr,fun v hv=>(hmem v hv).2,by omega,fun hh=>(by grind),fun ad had=>?_⟩;cases had;exact⟨(wH len hg).2,fun _ h=>h⟩
    grind
   all_goals grind
  ·
   rename_i k e hu;unfold DataW.trod at h;rw[hu]at h;split at h
   case h_10=>
    rename_i cs0 _ _ k' e' h1;cases h1;split at h
    ·
     rename_i hc;rw[Option.map_eq_some_iff]at h;obtain⟨xs,hxs,_⟩:=h;obtain⟨hTe,hce⟩:=K.array hT hu;obtain⟨cl,hr,hlen,hty⟩:=mC (w:=w) (O:=fun _=>False) (g:=fun i=>(cs0.drop (i*P.cellsOf e)).take (P.cellsOf e)) (R:=fun i c=>HasTy P e c) (List.range k) (fun i hi=>by
      have hi':=List.mem_range.1 hi;have:=mapM_some_get hxs i i (by grind);have hlen:=mapM_some_length hxs;simp only[List.length_range]at hlen;rw[List.getElem?_eq_getElem (by omega)]at this;obtain⟨c,q1,q2,_⟩:=qN K m e hp hTe n _ _ this;grind)
     simp only[List.length_range]at hlen;rw[wG,←hce,←hc,List.take_length]at hr;refine⟨.agg cl,hr,.arr hu (fun x hx=>?_) hlen,rfl⟩;obtain⟨i,hi,rfl⟩:=List.getElem_of_mem hx;exact hty i i _ (List.getElem?_range (by omega)) (by rw[List.getElem?_eq_getElem hi])
    grind
   all_goals grind
  ·
   rename_i fs hu;unfold DataW.trod at h;rw[hu]at h;split at h
   case h_9=>
    rename_i cs0 _ _ fs' h1;cases h1;split at h
    ·
     rename_i hc;rw[Option.map_eq_some_iff]at h;obtain⟨xs,hxs,_⟩:=h;obtain⟨hTf,hsum,hoff⟩:=K.struct hT hu;obtain⟨cl,hr,hlen,hty⟩:=mC (w:=w) (O:=fun _=>False) (g:=fun f:Field=>(cs0.drop f.offset).take (P.cellsOf f.type)) (R:=fun f c=>HasTy P f.type c) fs.toList (fun f hf=>by
      obtain⟨i,hi,rfl⟩:=List.getElem_of_mem hf;have:=mapM_some_get hxs i _ (List.getElem?_eq_getElem hi);have hlen:=mapM_some_length hxs;rw[List.getElem?_eq_getElem (by omega)]at this;obtain⟨c,q1,q2,_⟩:=qN K m _ (List.all_eq_true.1 hp _ (List.getElem_mem hi)) (hTf _ (List.getElem_mem hi)) n _ _ this;grind)
     rw[wF (cw:=fun f=>P.cellsOf f.type) fs.toList 0 (fun j f hf=>by grind),List.drop_zero,←hsum,←hc,List.take_length]at hr;exact⟨.agg cl,hr,.struct hu (by grind) hty,rfl⟩
    grind
   all_goals grind
  grind
theorem uM {t:TypeId}{v:Value}{c:CV}(hc:HasTy P t c)(h:Value.okWide P w .any base t v):c.isAgg=Value.isAgg' v:=by
 cases hc with
 |bool hu b=>unfold Value.okWide at h;rw[hu]at h;simp only[Cell.okWide,hu]at h;cases v<;>simp_all[Cell.ok,CV.isAgg,Value.isAgg']
 |int hu hw=>unfold Value.okWide at h;rw[hu]at h;simp only[Cell.okWide,hu]at h;cases v<;>simp_all[Cell.ok,CV.isAgg,Value.isAgg']
 |str hu hs=>unfold Value.okWide at h;rw[hu]at h;simp only[Cell.okWide,hu]at h;cases v<;>simp_all[Cell.ok,CV.isAgg,Value.isAgg']
 |slc hu hl hn=>unfold Value.okWide at h;rw[hu]at h;simp only[Cell.okWide,hu]at h;cases v<;>simp_all[Cell.ok,CV.isAgg,Value.isAgg']
 |arr hu hl hn=>unfold Value.okWide at h;rw[hu]at h;obtain⟨cs,rfl,_⟩:=h;rfl
 |struct hu hn hl=>unfold Value.okWide at h;rw[hu]at h;obtain⟨cs,rfl,_⟩:=h;rfl
theorem aK8 (b:Nat): ¬Own (fun _=>none) b:=by rintro⟨_,_,h,_⟩;cases h
theorem qO (K:Kids P T){m:Nat}: ∀{ts:List TypeId} {vs:List Value} {ds:List (DataW H)} {ps:List MemPlace},DataW.TrodAll enc P w base sp held ts vs ds ps→(∀t∈ts,mB P m t=true∧T t)→
  (∀(j:Nat) t v,ts[j]? =some t→vs[j]? =some v→Value.okWide P w .any 0 t v)→
  ∃cs:List CV,RepHV w (fun _=>none) (Owned (fun _=>none) (fun _=>False)) (cs.map .c) vs∧cs.length=ts.length∧ds.length=ts.length∧ ∀(j:Nat) t c,ts[j]? =some t→cs[j]? =some c→HasTy P t c
 |[],vs,ds,ps,h,_,_=>by
  obtain⟨rfl,rfl,rfl⟩:=ChangeShapes.trodAll_nil h;exact⟨[],by simp[RepHV],rfl,rfl,by simp⟩
 |t::ts,vs,ds,ps,h,hp,ho=>by
  obtain⟨v,vs1,d,ds1,a,b,rfl,rfl,rfl,⟨n,h1⟩,h2⟩:=ChangeShapes.trodAll_cons h;obtain⟨c,q1,q2,_⟩:=qN (w:=w) K m t (hp t (by simp)).1 (hp t (by simp)).2 n _ _ h1;obtain⟨cs,r1,r2,r3,r4⟩:=qO K h2 (fun t ht=>hp t (by simp[ht])) (fun j t v h3 h4=>ho (j+1) t v (by simpa using h3) (by simpa using h4));have hst:Stay w (fun _=>False) w (Owned (fun _=>none) (fun _=>False)):=⟨fun b _ _=>⟨rfl,fun hb=>hb.elim (fun x=>x) (aK8 b)⟩⟩;refine⟨c::cs,?_,by simp[r2],by simp[r3],fun j t' c' h3 h4=>?_⟩
  · rw[List.map_cons,bQ];exact⟨v,vs1,rfl,⟨by simp only[RepH];exact q1.stay hst,uM q2 (ho 0 t v rfl rfl)⟩,r1⟩
  ·
   cases j with
   |zero=>simp at h3 h4;rw[←h3,←h4];exact q2
   |succ j=>simp at h3 h4;exact r4 j t' c' h3 h4
theorem bD6 {w w':World}(h: ∀b,b<w.heap.size→w'.heap[b]? =w.heap[b]?){p:MemPlace}(hp:p.block<w.heap.size):w.sameAt w' p:=by
 cases p with
 |cell b off=>exact World.cell?_of_block (h b hp)
 |map b=>exact h b hp
theorem oW {w':World}: ∀{ts:List TypeId} {vs:List Value} {ds:List (DataW H)} {ps:List MemPlace},DataW.TrodAll enc P w base sp held ts vs ds ps→(∀p∈ps,w.sameAt w' p)→DataW.TrodAll enc P w' base sp held ts vs ds ps
 |[],_,_,_,h,_=>by
  obtain⟨rfl,rfl,rfl⟩:=ChangeShapes.trodAll_nil h;exact ChangeShapes.trodAll_mk0
 |t::ts,_,_,_,h,hs=>by
  obtain⟨v,vs1,d,ds1,a,b,rfl,rfl,rfl,⟨n,h1⟩,h2⟩:=ChangeShapes.trodAll_cons h;exact⟨a,b,⟨n,DataW.trod_carry n t _ _ h1 (fun p hp=>hs p (List.mem_append_left _ hp))⟩,oW h2 (fun p hp=>hs p (List.mem_append_right _ hp)),rfl⟩
theorem aS6 {w w':World}(h1:w'.os=w.os)(h2:w'.output=w.output)(h: ∀b,b<w.heap.size→w'.heap[b]? =w.heap[b]?)(may:MemPlace→Prop):w.keptBut w' may:=by
 refine⟨h1,h2,fun i hi=>?_⟩;grind
end
end Go.Hl
namespace Go.Hl
open Go Go.RowKit Go.Sort Go.Proofs
end Go.Hl
namespace Go.Hl
open Go Go.RowKit
end Go.Hl
namespace Go.Hl
open Go Go.RowKit Go.Sort
abbrev nK :=List (Nat×List Value)
def fN (T:nK):Ob:=fob [(0,.tab T)]
def nL (P:Program)(f:FuncId)(T:nK)(args:List CV)(R:CV→Prop):Prop:=
 HFn P f (args.map .c) 1 (fN T) (fun r ob'=> ∃v,r= .c v∧ob'=fN T∧R v)
def qP (P:Program)(f:FuncId)(T:nK)(args:List CV)(R:CV→CV→Prop):Prop:=
 HFn P f (args.map .c) 1 (fN T) (fun r ob'=> ∃u v,r= .tup [.c u,.c v]∧ob'=fN T∧R u v)
theorem gB (T:nK)(j:Nat):fN T j=if j=0 then some (.tab T)else none:=by
 simp only[fN,fob_at,fob_nil]
theorem fR (T:nK)(args:List CV):LocOk 1 (args.map .c) (fN T):=by
 refine⟨fun j h=>?_,fun id o h=>?_,HV.menL_c⟩
 ·
  have:j=0:=by omega
  subst this;exact⟨_,rfl⟩
 grind[gB,HO.men]
variable {T:nK}{ob:Ob}
theorem bN3 {cl:List Nat}(hb:ob 0=some (.tab T))(h0:0∉cl)(j:Nat)(o:HO)(ho:fN T j=some o):
  j<1+4∧o.men (· <1+4)∧id j∉cl∧ ∃o0,ob (id j)=some o0∧(match o0 with| .box t v=>HO.box t (v.close ob cl).norm| .row e sz l=> .row e sz l| .mp e sz D=> .mp e sz D| .dead=> .dead| .tab T=> .tab T| .hrow e sz l=> .hrow e sz (HV.closeL ob cl l)| .raw es c=> .raw es c| .it m s q l=> .it m s q l)=o.ren id:=by
 rw[gB]at ho;split at ho
 ·
  subst_vars
  cases ho;exact⟨by omega,by simp[HO.men],h0,_,hb,rfl⟩
 grind
variable {r:HV}
theorem mD {R:CV→Prop}(cl:List Nat)(v:CV)(h:(r.close ob cl).norm= .c v)(hb:ob 0=some (.tab T))(h0:0∉cl)(hR:R v):
  jN 1 r ob (fun r ob'=> ∃v,r= .c v∧ob'=fN T∧R v):=
 ⟨cl,id,.c v,fN T,⟨v,rfl,rfl,hR⟩,by rw[h];rfl,fun _ _=>rfl,fun _ _ _ _ h=>h,by simp[HV.men],bN3 hb h0⟩
variable {R:CV→CV→Prop}
theorem eQ (cl:List Nat)(u v:CV)(h:(r.close ob cl).norm= .tup [.c u,.c v])(hb:ob 0=some (.tab T))(h0:0∉cl)(hR:R u v):
  jN 1 r ob (fun r ob'=> ∃u v,r= .tup [.c u,.c v]∧ob'=fN T∧R u v):=
 ⟨cl,id,.tup [.c u,.c v],fN T,⟨u,v,rfl,rfl,hR⟩,by grind[HV.ren,HV.renL],fun _ _=>rfl,fun _ _ _ _ h=>h,by simp[HV.men,HV.menL],bN3 hb h0⟩
variable {nid:Nat}
theorem tX {id:Nat}(hid:ob id=some (.tab T))(hfree:ob nid=none∧ob (nid+1)=none∧ob (nid+2)=none∧ob (nid+3)=none):cB ob [id] nid (fN T)=ob:=by
 funext i;by_cases e:i=id
 · subst e;simp only[cB,List.findIdx?_cons,beq_self_eq_true,if_true,gB,Option.map_some,hid];rfl
 ·
  have e':(id==i)=false:=by simp;exact fun h=>e h.symm
  simp only[cB,List.findIdx?_cons,e',List.findIdx?_nil,Option.map_none];simp only[Bool.false_eq_true,if_false];split
  ·
   rename_i hr;have h1:[id].length+(i-nid)≠0:=by simp
   rw[gB,if_neg h1];grind
  · rfl
theorem zG {id:Nat}(hid:ob id=some (.tab T)): ∀j o,fN T j=some o→ob ([id].getD j 0)=some (o.ren (sub [id] nid)):=by grind[gB,HO.ren]
variable {args:List CV}{K:HV→Ob→Prop}{f:FuncId}{av:List Nat}{P:Program}
theorem jQ {R:CV→Prop}(id:Nat)(h:nL P f T args R)(hid:ob id=some (.tab T))(hav:id∉av)
  (hfree:ob nid=none∧ob (nid+1)=none∧ob (nid+2)=none∧ob (nid+3)=none) (hK: ∀v,R v→K (.c v) ob):HCall P av f (args.map .c) ob nid K:=by
 refine⟨[id],args.map .c,_,_,h,fR T args,⟨by simp,by grind⟩,(HV.renL_c _ _).symm,zG hid,fun r lob' hR _=>?_⟩;obtain⟨v,rfl,rfl,hR⟩:=hR;rw[tX hid hfree];exact hK v hR
theorem eR (id:Nat)(h:qP P f T args R)(hid:ob id=some (.tab T))(hav:id∉av)
  (hfree:ob nid=none∧ob (nid+1)=none∧ob (nid+2)=none∧ob (nid+3)=none) (hK: ∀u v,R u v→K (.tup [.c u,.c v]) ob):HCall P av f (args.map .c) ob nid K:=by
 refine⟨[id],args.map .c,_,_,h,fR T args,⟨by simp,by grind⟩,(HV.renL_c _ _).symm,zG hid,fun r lob' hR _=>?_⟩;obtain⟨u,v,rfl,rfl,hR⟩:=hR;rw[tX hid hfree];exact hK u v hR
theorem aS7 {g:Nat}{name:String}{k:IntKind}{zs:List Int}(hok:eG P f=true)(hg:P.globalNamed name=some g)(hT:(g,zs.map fun z=>Value.int k z)∈T){a b:Int}{s:List UInt8}
  (hc: ∀w:World,Lib.TabIs P w name k zs→Calls P f #[.int .i64 a,.int .i64 b] w fun e w'=>e= .returned (.string ⟨s.toArray⟩)∧ ∃n os,w'=grow (w.drewN n) os):
  nL P f T [.int .i64 a,.int .i64 b] (fun v=>v= .str s):=by
 refine⟨qE hok,fun w ρ X xs hS hA hX=>Does.of hok ?_⟩;have h0:=hS.objs 0 _ (rfl:fN T 0=some (.tab T));have htab:Lib.TabIs P w name k zs:=by
  obtain⟨-,h1⟩:=h0;obtain⟨⟨t,fz,h2⟩,-⟩:=h1 _ hT;simp only[Lib.TabIs,World.var?,hg,Option.bind_some,h2]
 simp only[List.map_cons,List.map_nil,bQ,RepHV]at hA;obtain⟨x,zs',rfl,hx,y,zs'',rfl,hy,rfl⟩:=hA;have h1:=RepV.single hx rfl;have h2:=RepV.single hy rfl;simp only[RepC,List.cons.injEq,and_true]at h1 h2;subst h1 h2;refine(hc w htab).mono ?_;rintro ex w' ⟨rfl,n,os,rfl⟩;have hs2:Stay2 w (Own ρ) (grow (w.drewN n) os) (Own ρ):=⟨fun c hc' _=>by grind[grow,World.drewN,Array.getElem?_append_left],fun _ h=> .inl h,by simp_all,rfl,rfl,rfl⟩;have hst:=hs2.stay X;refine⟨_,_,ρ,_,rfl,⟨_,rfl,rfl,rfl⟩,⟨?_,⟨fun i o ho=>?_,hS.none,hS.apart,hS.xb⟩,by simp[HV.men],fun i o ho=>?_,hs2,Moves.refl _ _⟩⟩
 · refine bT ?_ rfl rfl;simp[RepC]
 ·
  rw[gB]at ho;split at ho
  ·
   subst_vars
   cases ho;exact⟨h0.1,lB hst h0.2⟩
  · cases ho
 grind[gB,HO.men]
end Go.Hl
namespace Go.Hl
open Go Go.RowKit
section
variable {P:Program}{T:TypeId→Prop}{H:Type}{enc:TypeId×Value→H}
theorem bD7 {W:World}{args:Array Value}{f:FuncId}{fn:Func}{s:ChangeSpec}{mm:Nat}{tb:TypeId}{tabs:nK}(hok:eG P f=true)(K:Kids P T)(hz: ∀t e,T t→P.underlying t=some (.slice e)→0<P.cellsOf e)(hvars:s.vars=[])(hres:fn.resultTypes= #[tb])(htb:P.underlying tb=some .bool)
  (hspec: ∀(H:Type) (ds:List (DataW H)),ds.length=fn.params.toList.length→(s.fn H ds).results=[.lit (.bool true)]∧(s.fn H ds).args=ds∧(s.fn H ds).vars=[]) (hpl: ∀t∈fn.params.toList,mB P mm t=true∧T t)
  (hlaw: ∀cs:List CV,cs.length=fn.params.toList.length→(∀(j:Nat) t c,fn.params.toList[j]? =some t→cs[j]? =some c→HasTy P t c)→RepHV W (fun _=>none) (Owned (fun _=>none) (fun _=>False)) (cs.map .c) args.toList→nL P f tabs cs (fun v=>v= .bool true))
  (htab: ∀x∈tabs,∃t fz,W.heap[x.1]? =some (.cells x.2.toArray t fz)) {ds gs:List (DataW H)} {before:List MemPlace} (hval: ∀(j:Nat) t v,fn.params[j]? =some t→args[j]? =some v→Value.okWide P W .any 0 t v)
  (hW:DataW.Whole enc P fn.params.toList s.vars false W args.toList ds gs before):
  Calls P f args W fun e W'=> ∃v,e= .returned v∧s.post enc P fn false true false false W args v W':=by
 have hW':=hW;obtain⟨p,q,hA,hV,rfl,hfz,hnd⟩:=hW;rw[hvars]at hV;obtain⟨rfl,rfl⟩:=ChangeShapes.trodVars_none hV;simp only[List.append_nil]at hW' hfz;obtain⟨cs,r1,r2,r3,r4⟩:=qO (m:=mm) K hA hpl (fun j t v h1 h2=>hval j t v (by grind) (by grind));obtain⟨_,hrun⟩:=hlaw cs r2 r4 r1;have hS:RepS W (fun _=>none) (fun _=>False) (fN tabs):=by
  refine⟨fun i o h=>?_,fun _ _=>rfl,fun _ _ _ _ _ h=>(by grind),fun _ _ _ h=>(by grind)⟩;rw[gB]at h;split at h
  ·
   cases h;refine⟨rfl,fun x hx=>⟨htab x hx,?_⟩⟩;rintro(h1|⟨i,L,h1,_⟩)
   · exact h1
   · cases h1
  · cases h
 have hcall:=hrun W (fun _=>none) (fun _=>False) args.toList hS r1 (fun _ h=>h.elim);rw[Array.toArray_toList]at hcall;refine(hcall.calls hok).mono ?_;rintro e W' ⟨r,ob',ρ',x,rfl,⟨v,rfl,rfl,rfl⟩,hg⟩;obtain⟨hr1,hr2⟩:=hg.v;have hx:x= .bool true:=by
  have hag:Value.isAgg' x=false:=by rw[←hr2];rfl
  rw[cells_single hag]at hr1;simpa[RepH,RepC]using hr1
 subst hx;have hheap: ∀b,b<W.heap.size→W'.heap[b]? =W.heap[b]? :=fun b hb=>hg.stay.block b hb (aK8 b);obtain⟨s1,s2,s3⟩:=hspec H (ds++[]) (by simpa using r3);have hlt: ∀a∈p,a.block<W.heap.size:=hA.lt;have args': ∀sp:Nat→Bool,(∀a∈p,sp a.block=true)→DataW.TrodAll enc P W' 0 sp true fn.params.toList args.toList ds p:=fun sp hsp=>
  oW (hA.respare K hz (fun t ht=>(hpl t ht).2) hsp) (fun a ha=>bD6 hheap (hlt a ha))
 have hrl:Value.resultList fn.resultTypes.size (.bool true)=[.bool true]:=by rw[hres];rfl
 have hresT: ∀(b:Nat) (sp:Nat→Bool) (hd:Bool),DataW.TrodAll enc P W' b sp hd fn.resultTypes.toList (Value.resultList fn.resultTypes.size (.bool true)) [.lit (.bool true)] []:=fun b sp hd=>by
  rw[hrl,hres];exact trodAll_cons_mk (RowKit.shut_bool htb true) ChangeShapes.trodAll_mk0
 refine⟨.bool true,rfl,ds,[],p,[],p,[],by simpa using hW',?_,?_,?_,?_,?_⟩
 · rw[s1];exact hresT _ _ _
 · rw[s2];simpa using args' _ (fun a ha=>by simpa using hlt a ha)
 · rw[s3,hvars];rfl
 · exact aS6 hg.stay.os hg.stay.output hheap _
 · intro h;cases h
theorem bD8 {f:FuncId}{fn:Func}{s:ChangeSpec}{mm:Nat}{tb:TypeId}{tabs:nK}(hok:eG P f=true)(K:Kids P T)(hz: ∀t e,T t→P.underlying t=some (.slice e)→0<P.cellsOf e)(hvars:s.vars=[])(hres:fn.resultTypes= #[tb])(htb:P.underlying tb=some .bool)
  (hspec: ∀(H:Type) (ds:List (DataW H)),ds.length=fn.params.toList.length→(s.fn H ds).results=[.lit (.bool true)]∧(s.fn H ds).args=ds∧(s.fn H ds).vars=[]) (hpl: ∀t∈fn.params.toList,mB P mm t=true∧T t)
  (hlaw: ∀cs:List CV,cs.length=fn.params.toList.length→(∀(j:Nat) t c,fn.params.toList[j]? =some t→cs[j]? =some c→HasTy P t c)→nL P f tabs cs (fun v=>v= .bool true))
  {W:World} (htab: ∀x∈tabs,∃t fz,W.heap[x.1]? =some (.cells x.2.toArray t fz)) {args:Array Value} {ds gs:List (DataW H)} {before:List MemPlace} (hval: ∀(j:Nat) t v,fn.params[j]? =some t→args[j]? =some v→Value.okWide P W .any 0 t v)
  (hW:DataW.Whole enc P fn.params.toList s.vars false W args.toList ds gs before):
  Calls P f args W fun e W'=> ∃v,e= .returned v∧s.post enc P fn false true false false W args v W':=
 bD7 hok K hz hvars hres htb hspec hpl (fun cs h1 h2 _=>hlaw cs h1 h2) htab hval hW
end
theorem yD {P:Program}{W:World}{name:String}{k:IntKind}{zs:List Int}{g:Nat}(hg:P.globalNamed name=some g)(h:Lib.TabIs P W name k zs): ∃t fz,W.heap[g]? =some (.cells (zs.map fun z=>Value.int k z).toArray t fz):=by grind[Lib.TabIs,World.var?]
end Go.Hl
namespace Go.Hl
open Go
open Go.ChangeMaps (setBlock heap_setBlock_same heap_setBlock_other)
section
variable {P:Program}{n k:Nat}{ops:Array Oper}{nx i:Nat}{Kf:Fr→Ob→Prop}{fr:Fr}{ob:Ob}
def Lx (P:Program)(n k:Nat)(ops:Array Oper)(nx:Nat)(Kf:Fr→Ob→Prop)(i:Nat)(fr:Fr)(ob:Ob):Prop:=
 ∀(c:Ctx) (a:Act) (w:World) (Q:Exit→Act→World→Prop),c.n=n→c.M0=(· <k)→(∀fr' ob' a' w',Kf fr' ob'→RepA c (· <nx+4*ops.size) fr' ob' a' w'→Q .normal a' w')→RepA c (· <nx+4*i) fr ob a w→wpOpsIn c.F 0 P ops Q (List.range' i (ops.size-i)) a w
theorem aX3 {id:Nat}{Q:fB}(h:Lx P n k ops nx (fun fr' ob'=>Q .normal fr' ob' (nx+4*ops.size)) 0 fr ob):Hw P n k (.region id ops false) Q fr ob nx:=by
 intro c a w hn hk hz hA;refine wpIn_region ?_;rw[List.range_eq_range'];exact h c a w _ hn hk (fun fr' ob' a' w' hK hA'=>⟨fr',ob',_,hK,hA'⟩) hA
theorem wI (hi:i=ops.size)(h:Kf fr ob):Lx P n k ops nx Kf i fr ob:=by
 subst hi;intro c a w Q hn hk hQ hA;simp only[Nat.sub_self,List.range'_zero,wpOpsIn];exact hQ _ _ _ _ h hA
theorem aK9 {o:Oper}{g:Option (Nat×Bool)}(hd:gM n ops=true)(ho:ops[i]? =some o)(hg:gd ops o=some g)(h: ∀K:Fr→Ob→Prop,(∀fr ob,Lx P n k ops nx Kf (i+1) fr ob→K fr ob)→hop1 P (nx+4*i) [] g o.op o.dst K fr ob):Lx P n k ops nx Kf i fr ob:=by
 intro c a w Q hn hk hQ hA;have hi:i<ops.size:=(Array.getElem?_eq_some_iff.1 ho).1;rw[show ops.size-i=(ops.size-(i+1))+1 by omega,List.range'_succ,wpOpsIn_cons];have hI:=sK (fun _ _ x=>x) (lF ho hg (h _ (fun _ _ x=>x)));refine wpOpIn_mono (fun a' w' hx=>?_) (kK (Q:=Q) (M':=(· <nx+4*(i+1))) hA (fun t ht=>by omega) (fun i hi=>by omega) (fun t ht=>by omega) (by rw[hn];exact gK hd) hI);obtain⟨fr',ob',hK,hA'⟩:=hx;exact hK c a' w' Q hn hk hQ hA'
theorem wJ {o:Oper}(hd:gM n ops=true)(ho:ops[i]? =some o)(hg:o.guard=none)(hn0: ∀c,o.op≠ .defer c)
  (h: ∀(c:Ctx) (a:Act) (w:World) (ρ:Env),RepA' c (· <nx+4*i) fr ob a w ρ→(∀t,o.dst=some t→t<c.n)→ ∃y w' fr' ob',((execOp a.eval o).run P w= .ok (.value y) w'∨((execOp a.eval o).run P w= .ok .skip w'∧y=undef))∧Lx P n k ops nx Kf (i+1) fr' ob'∧RepA c (· <nx+4*(i+1)) fr' ob' (a.put o.dst y) w'):Lx P n k ops nx Kf i fr ob:=by
 intro c a w Q hn hk hQ hA;have hi:i<ops.size:=(Array.getElem?_eq_some_iff.1 ho).1;rw[show ops.size-i=(ops.size-(i+1))+1 by omega,List.range'_succ,wpOpsIn_cons];obtain⟨ρ,hA⟩:=hA;unfold wpOpIn;rw[ho];simp only;rw[if_pos (by unfold Region.wanted;rw[hg])];obtain⟨y,w',fr',ob',hrun,hL,hA'⟩:=h c a w ρ hA (fun t ht=>by rw[hn];exact gK hd o (Array.mem_of_getElem? ho) t ht);refine⟨fun _ _=>trivial,?_⟩;rw[Oper.semAt_eq _ _ _ hn0];rcases hrun with hrun|⟨hrun,rfl⟩
 · rw[hrun];exact hL c _ w' Q hn hk hQ hA'
 · rw[hrun];exact hL c _ w' Q hn hk hQ hA'
section
variable {c:Ctx}{M:Nat→Prop}{a:Act}{w:World}{ρ:Env}
theorem cE0 (h:RepA' c M fr ob a w ρ){x:Operand}{id m:Nat}(hx:ev fr x= .ptr id 0){s q:Nat}{seen:Array Nat}(ho:ob id=some (.it m s seen q)){es:Array MapEntry}{ck:Nat}(hm:ob m=some (.raw es ck)):
  ∃b bm,ρ id=some (.blk b)∧a.eval x= .pointer (some ⟨b,0,none⟩)∧w.heap[b]? =some (.mapIter (some bm) s seen q)∧w.heap[bm]? =some (.map es ck)∧ρ m=some (.mp bm fun _=>none):=by
 obtain⟨y,he,h1,hp⟩:=bK0 h hx;obtain⟨b,x',h2,h3,h4⟩:=h.s.objs id _ ho;obtain⟨bm,h5,h6⟩:=h.s.objs m _ hm;have:=h4 _ _ h5;subst this;exact⟨b,x',h2,by grind,h3,h6,h5⟩
end
theorem aS8 {o:Oper}{t:TypeId}{d:Nat}(hd:gM n ops=true)(ho:ops[i]? =some o)(hg:o.guard=none)(hop:o.op= .makeMap t none)(hdst:o.dst=some d)
  (h:Lx P n k ops nx Kf (i+1) (upd fr d (.mapr (nx+4*i))) (upd ob (nx+4*i) (some (.raw (gJ []) 0)))):Lx P n k ops nx Kf i fr ob:=by
 refine wJ hd ho hg (by rw[hop];intro c hc;cases hc) fun c a w ρ hA hdd=>?_;have:=hA.newObj (d:=o.dst) (w1:=w) (obj:= .map #[] 0) (nid:=nx+4*i) (M':=(· <nx+4*(i+1))) (v:= .mapr (nx+4*i)) (x:= .map (some w.heap.size)) (L:= .mp w.heap.size (fun _=>none)) (o:= .raw (gJ []) 0) (by omega) (fun j hj=>by omega) (by omega) rfl rfl rfl rfl ?_ (fun _=>?_) trivial (.inr ?_) (by simp only[HV.men];omega) hdd
 · simp only[hdst]at this⊢;exact⟨.map (some w.heap.size),w.alloc (.map #[] 0),_,_,.inl (by simp only[execOp,hop];rfl),h,⟨_,this⟩⟩
 ·
  rintro b (hb|⟨k,v,e1,e2⟩)
  · exact hb
  · cases e1
 · exact⟨_,aW _ _ _,heap_alloc_new w _⟩
 · refine cQ ?_ rfl rfl;simp only[RepH];refine⟨_,rfl,by simp[Value.oneCell'],fun b hf hρ=>?_⟩;rw[aW]at hρ;cases hρ;rfl
theorem bN4 {o:Oper}{t kt et:TypeId}{x:Operand}{d id:Nat}{es:Array MapEntry}{ck:Nat}(hd:gM n ops=true)(ho:ops[i]? =some o)(hg:o.guard=none)(hop:o.op= .range t x)(hdst:o.dst=some d)
  (hut:P.underlying t=some (.map kt et)) (hx:ev fr x= .mapr id) (hob:ob id=some (.raw es ck))
  (h:Lx P n k ops nx Kf (i+1) (upd fr d (.ptr (nx+4*i) 0)) (upd ob (nx+4*i) (some (.it id ck #[] ck)))):Lx P n k ops nx Kf i fr ob:=by
 refine wJ hd ho hg (by rw[hop];intro c hc;cases hc) fun c a w ρ hA hdd=>?_;obtain⟨b,h1,h2,h3⟩:=aQ3 hA hx hob;have hrun:(execOp a.eval o).run P w= .ok (.value (.pointer (some ⟨w.heap.size,0,none⟩))) (w.alloc (.mapIter (some b) ck #[] ck)):=by
  have e:(newObj (.mapIter (some b) ck #[] ck)).run P w= .ok w.heap.size (w.alloc (.mapIter (some b) ck #[] ck)):=rfl;simp[execOp,hop,h2,Instr.range,run_underlying hut,MapKept.run_getObj_map h3,Result.andThen,e]
 have hid:=(hA.mo id _ hob).1;have:=hA.newObj (d:=o.dst) (w1:=w) (obj:= .mapIter (some b) ck #[] ck) (nid:=nx+4*i) (M':=(· <nx+4*(i+1))) (v:= .ptr (nx+4*i) 0) (x:= .pointer (some ⟨w.heap.size,0,none⟩)) (L:= .blk w.heap.size) (o:= .it id ck #[] ck) (by omega) (fun j hj=>by omega) (by omega) rfl rfl rfl rfl ?_ (fun _=>?_) (by simp only[HO.men];omega) (.inr ?_) (by simp only[HV.men];omega) hdd
 · simp only[hdst]at this⊢;exact⟨_,_,_,_,.inl hrun,h,⟨_,this⟩⟩
 · rintro b hb;exact hb
 · refine⟨_,b,aW _ _ _,heap_alloc_new w _,fun bm hf hρ=>?_⟩;rw[bG _ _ (by omega),h1]at hρ;cases hρ;rfl
 · refine cQ ?_ rfl rfl;simp only[RepH];refine⟨_,rfl,by simp[Value.oneCell'],fun b hρ=>?_⟩;rw[aW]at hρ;cases hρ;rfl
theorem lI {o:Oper}{t kt et:TypeId}{m kx vx:Operand}{id:Nat}{l:List (Int×List UInt8)}{z:Int}{s:List UInt8}(hd:gM n ops=true)(ho:ops[i]? =some o)(hg:o.guard=none)(hop:o.op= .insert t m kx vx)(hdst:o.dst=none)
  (hut:P.underlying t=some (.map kt et)) (hkt:P.underlying kt=some (.int .i64)) (hm:ev fr m= .mapr id) (hob:ob id=some (.raw (gJ l) l.length)) (hk:ev fr kx= .c (.int .i64 z)) (hv:ev fr vx= .c (.str s)) (hno:lkG l z=none)
  (h:Lx P n k ops nx Kf (i+1) fr (upd ob id (some (.raw (gJ (l++[(z,s)])) (l.length+1))))):Lx P n k ops nx Kf i fr ob:=by
 refine wJ hd ho hg (by rw[hop];intro c hc;cases hc) fun c a w ρ hA hdd=>?_;obtain⟨b,h1,h2,h3⟩:=aQ3 hA hm hob;obtain⟨r,f1,f2⟩:=pD z 0 0 l;rw[hno]at f2;have hr:r=none:=by cases r with|none=>rfl|some x=>simp at f2
 subst hr;have hrun:(execOp a.eval o).run P w= .ok .skip (setBlock w b (.map (gJ (l++[(z,s)])) (l.length+1))):=by
  have f3:Instr.findNow (.int .i64) (.int .i64 z) (gJ l).toList 0=some none:=by simpa[gJ]using f1
  simp[execOp,hop,h2,dC hA hk,kP hA hv,Instr.mapUpdate,run_underlying hut,MapKept.run_getObj_map h3,aQ2 hkt,Instr.findKey,run_underlying hkt,f3,MapKept.run_setObj_map _ h3,Result.andThen,setBlock,bB8]
 have hid:=(hA.mo id _ hob).1;have:=hA.setObj (d:=none) (v:= .junk) (x:=undef) (w':=setBlock w b (.map (gJ (l++[(z,s)])) (l.length+1))) (o:= .raw (gJ (l++[(z,s)])) (l.length+1)) h1 (.inl rfl) hid (fun b' hb'=>heap_setBlock_other h3 _ hb') (by simp[setBlock]) rfl rfl rfl (fun _=>⟨b,h1,heap_setBlock_same h3 _⟩) trivial (fun _=> .inl rfl) (by simp[HV.men]) (fun t ht=>by cases ht);rw[hdst];exact⟨undef,_,_,_,.inr ⟨hrun,rfl⟩,h,⟨_,this.weaken (fun j hj=>by omega)⟩⟩
theorem bD9 {l:List (Int×List UInt8)}: ∀x∈(gJ l).toList,x.born<l.length:=fun x hx=>by
 obtain⟨j,hj,rfl⟩:=aW4 0 l x (by simpa[gJ]using hx);simpa using hj
theorem bY1 {w:World}{ρ:Env}{O:Nat→Prop}(z:Int)(s:List UInt8):RepV w ρ O (.tup [.c (.int .i64 z),.c (.str s)]) (.tuple #[.int .i64 z,.string ⟨s.toArray⟩]):=by
 refine⟨?_,rfl⟩;simp only[RepH];exact⟨[_,_],rfl,by simp only[RepHV];exact⟨_,_,rfl,bT (by simp[RepC]) rfl rfl,_,_,rfl,bT (by simp[RepC]) rfl rfl,rfl⟩⟩
theorem bY2 {o:Oper}{x:Operand}{d it id:Nat}{l:List (Int×List UInt8)}{seen:Array Nat}(hd:gM n ops=true)(ho:ops[i]? =some o)(hg:o.guard=none)(hop:o.op= .next x false)(hdst:o.dst=some d)
  (hx:ev fr x= .ptr it 0) (hit:ob it=some (.it id l.length seen l.length)) (hid:ob id=some (.raw (gJ l) l.length))
  (hdone:(∀j,j<l.length→seen.contains j=true)→Lx P n k ops nx Kf (i+1) (upd fr d (.tup [.c (.bool false)])) ob)
  (hnext: ∀j (hj:j<l.length),seen.contains j=false→Lx P n k ops nx Kf (i+1) (upd fr d (.tup [.c (.bool true),.c (.int .i64 l[j].1),.c (.str l[j].2)])) (upd ob it (some (.it id l.length (seen.push j) l.length)))):Lx P n k ops nx Kf i fr ob:=by
 refine wJ hd ho hg (by rw[hop];intro c hc;cases hc) fun c a w ρ hA hdd=>?_;obtain⟨b,bm,h1,h2,h3,h4,h5⟩:=cE0 hA hx hit hid;rcases run_next_at (P:=P) w o.type b bm l.length l.length seen (gJ l) l.length h3 h4 bD9 (Nat.le_refl _)with⟨e1,hrun⟩|⟨e,he,w1,hw1,hrun⟩
 ·
  have hall: ∀j,j<l.length→seen.contains j=true:=fun j hj=>by
   have hin:=bK4 0 l j hj;cases hc:seen.contains j with
   |true=>rfl
   |false=>
    exfalso;have:(⟨.int .i64 l[j].1,.string ⟨l[j].2.toArray⟩,0+j⟩:MapEntry)∈leftOf (gJ l) seen:=by
     unfold leftOf;rw[Array.mem_filter];exact⟨by simpa[gJ]using hin,by simp only[Nat.zero_add,hc,Bool.not_false]⟩
    rw[Array.eq_empty_of_size_eq_zero e1]at this;simp at this
  have hv:RepV w ρ (Owned ρ c.X) (.tup [.c (.bool false)]) (.tuple #[.bool false]):=by
   refine⟨?_,rfl⟩;simp only[RepH];exact⟨[_],rfl,by simp only[RepHV];exact⟨_,_,rfl,bT (by simp[RepC]) rfl rfl,rfl⟩⟩
  have:=hA.value (d:=o.dst) (.inr hv) (by simp[HV.men,HV.menL]) hdd;rw[hdst]at this⊢;exact⟨_,_,_,_,.inl (by simp[execOp,hop,h2,hrun,Result.andThen]),hdone hall,⟨_,this.weaken (fun j hj=>by omega)⟩⟩
 ·
  have hmem:e∈esL 0 l∧seen.contains e.born=false:=by
   unfold leftOf at he;have:e∈Array.filter (fun e=>!seen.contains e.born) (gJ l):=by simpa using he
   rw[Array.mem_filter]at this;exact⟨by simpa[gJ]using this.1,by simpa using this.2⟩
  obtain⟨j,hj,rfl⟩:=aW4 0 l e hmem.1;have hc:seen.contains j=false:=by simpa using hmem.2
  have hw:w1.heap=w.heap∧w1.os=w.os∧w1.tape=w.tape∧w1.output=w.output:=by rcases hw1 with rfl|rfl<;>exact⟨rfl,rfl,rfl,rfl⟩
  obtain⟨w2,hw2⟩: ∃w2,w2=setBlock w1 b (.mapIter (some bm) l.length (seen.push j) l.length):=⟨_,rfl⟩;have hbl: ∀b',b'≠b→w2.heap[b']? =w.heap[b']? :=fun b' hb'=>by
   rw[hw2,setBlock,←hw.1];simp only;rw[Array.getElem?_setIfInBounds_ne (fun e=>hb' e.symm)]
  have hbs:w2.heap[b]? =some (.mapIter (some bm) l.length (seen.push j) l.length):=by
   rw[hw2,setBlock,hw.1];simp only;have:=(Array.getElem?_eq_some_iff.1 h3).1;rw[Array.getElem?_setIfInBounds_self];simp[this]
  have hm:=(hA.mo it _ hit).1;have hmi:HO.men (· <nx+4*i) (.it id l.length (seen.push j) l.length):=by have:=(hA.mo id _ hid).1;simpa[HO.men]using this
  have hv: ∀w':World,RepV w' ρ (Owned ρ c.X) (.tup [.c (.bool true),.c (.int .i64 l[j].1),.c (.str l[j].2)]) (.tuple #[.bool true,.int .i64 l[j].1,.string ⟨l[j].2.toArray⟩]):=fun w'=>by
   refine⟨?_,rfl⟩;simp only[RepH];exact⟨[_,_,_],rfl,by simp only[RepHV];exact⟨_,_,rfl,bT (by simp[RepC]) rfl rfl,_,_,rfl,bT (by simp[RepC]) rfl rfl,_,_,rfl,bT (by simp[RepC]) rfl rfl,rfl⟩⟩
  have:=hA.setObj (d:=o.dst) (v:= .tup [.c (.bool true),.c (.int .i64 l[j].1),.c (.str l[j].2)]) (x:= .tuple #[.bool true,.int .i64 l[j].1,.string ⟨l[j].2.toArray⟩]) (w':=w2) (o:= .it id l.length (seen.push j) l.length) h1 rfl hm hbl (by rw[hw2,setBlock,hw.1];simp) (by rw[hw2];exact hw.2.1) (by rw[hw2];exact hw.2.2.1) (by rw[hw2];exact hw.2.2.2) (fun _=>⟨b,bm,h1,hbs,fun bm' hf' hρ'=>by rw[h5]at hρ';cases hρ';rfl⟩) hmi (fun _=> .inr (hv w2)) (by simp[HV.men,HV.menL]) hdd;rw[hdst]at this⊢;rw[Nat.zero_add,←hw2]at hrun;exact⟨_,w2,_,_,.inl (by simp[execOp,hop,h2,hrun,Result.andThen]),hnext j hj hc,⟨_,this.weaken (fun j hj=>by omega)⟩⟩
theorem bN5 {o:Oper}{x:Operand}{d it id:Nat}{l:List (Int×List UInt8)}{seen:Array Nat}{j:Nat}(hj:j<l.length)(hd:gM n ops=true)(ho:ops[i]? =some o)(hg:o.guard=none)(hop:o.op= .entry x)(hdst:o.dst=some d)
  (hx:ev fr x= .ptr it 0) (hit:ob it=some (.it id l.length (seen.push j) l.length)) (hid:ob id=some (.raw (gJ l) l.length))
  (h:Lx P n k ops nx Kf (i+1) (upd fr d (.tup [.c (.int .i64 l[j].1),.c (.str l[j].2)])) ob):Lx P n k ops nx Kf i fr ob:=by
 refine wJ hd ho hg (by rw[hop];intro c hc;cases hc) fun c a w ρ hA hdd=>?_;obtain⟨b,bm,h1,h2,h3,h4,h5⟩:=cE0 hA hx hit hid;have hnd: ∀(b0:Nat) (l:List (Int×List UInt8)),((esL b0 l).map (·.born)).Nodup∧ ∀y∈(esL b0 l).map (·.born),b0≤y:=by
  intro b0 l;induction l generalizing b0 with
  |nil=>simp[esL]
  |cons y l ih=>
   obtain⟨i1,i2⟩:=ih (b0+1);refine⟨?_,?_⟩
   · simp only[esL,List.map_cons,List.nodup_cons];exact⟨fun hin=>by have:=i2 _ hin;omega,i1⟩
   ·
    simp only[esL,List.map_cons,List.mem_cons];rintro z (rfl|hz)
    · exact Nat.le_refl _
    · have:=i2 z hz;omega
 have hin:=bK4 0 l j hj;have hrun:=run_entry_at (P:=P) w b bm l.length seen (gJ l) l.length ⟨.int .i64 l[j].1,.string ⟨l[j].2.toArray⟩,0+j⟩ (by simpa using h3) h4 (by simpa[gJ]using hin) (by simpa[gJ]using(hnd 0 l).1);have:=hA.value (d:=o.dst) (.inr (bY1 l[j].1 l[j].2)) (by simp[HV.men,HV.menL]) hdd;rw[hdst]at this⊢;exact⟨_,_,_,_,.inl (by simp[execOp,hop,h2,hrun,Result.andThen]),h,⟨_,this.weaken (fun j hj=>by omega)⟩⟩
end
end Go.Hl
namespace Go.Pl
open Go Go.Hl
def cY (c:UInt8):Bool:=decide ((33:Int)≤c.toNat)&&decide ((c.toNat:Int)≤125)&&((c.toNat:Int) !=37)
def pJ (n:Nat):UInt8:=([48,49,50,51,52,53,54,55,56,57,65,66,67,68,69,70]:List UInt8).getD n 0
def kD (c:UInt8):List UInt8:=if cY c then [c]else [37,pJ (c.toNat/16),pJ (c.toNat%16)]
def cS (w:aH):aH:=w.flatMap kD
def iW (w:aH):aH:=if w=[]then [126]else cS w
def sizeW (w:aH):Nat:=max (cS w).length 1
@[simp] theorem cJ7 :cS []=[]:=rfl
theorem bY3 (c:UInt8):(kD c).length≤3:=by grind[kD]
theorem bN6 (c:UInt8):1≤(kD c).length:=by grind[kD]
theorem qQ (w:aH):(cS w).length≤3*w.length:=by
 induction w with
 |nil=>simp_all
 |cons c w ih=>
  grind[bY3,cS,List.length_append,List.length_cons]
theorem aL0 (w:aH):w.length≤(cS w).length:=by
 induction w with
 |nil=>grind
 |cons c w ih=>
  grind[bN6,cS,List.length_append,List.length_cons]
variable {i:Nat}
theorem pK {w:aH}(h:i<w.length):cS (w.take (i+1))=cS (w.take i)++kD w[i]:=by
 simp only[List.take_succ_eq_append_getElem h,cS,List.flatMap_append,List.flatMap_cons,List.flatMap_nil,List.append_nil]
theorem kX (w:aH)(i:Nat):(cS (w.take i)).length≤(cS w).length:=by
 have:cS w=cS (w.take i)++cS (w.drop i):=by simp[cS,←List.flatMap_append]
 grind
theorem qR (w:aH):(iW w).length=sizeW w:=by
 unfold iW sizeW;split
 · simp_all
 · rename_i h;have:=aL0 w;grind[List.length_pos_iff]
theorem dX (w:aH):sizeW w≤3*w.length+1:=by grind[qQ,sizeW]
theorem zH (w:aH):1≤sizeW w:=by unfold sizeW;omega
theorem cO6 (n:Nat):(if(1:Int)>(n:Int)then(1:Int)else(n:Int))=((max n 1:Nat):Int):=by split<;>omega
theorem cG3 (c:UInt8):Int.fdiv (c.toNat:Int) (2^(min 4 IntKind.u8.bits))=((c.toNat/16:Nat):Int):=by
 rw[show min 4 IntKind.u8.bits=4 from rfl,Int.fdiv_eq_ediv_of_nonneg _ (by omega)];rfl
theorem bN7 (c:UInt8):IntKind.u8.wrap ((BitVec.ofInt IntKind.u8.bits (c.toNat:Int)&&&BitVec.ofInt IntKind.u8.bits 15).toNat:Int)=((c.toNat%16:Nat):Int):=by
 have h:=c.toNat_lt;have:(BitVec.ofInt IntKind.u8.bits (c.toNat:Int)&&&BitVec.ofInt IntKind.u8.bits 15).toNat=c.toNat%16:=by
  rw[BitVec.toNat_and];have e1:(BitVec.ofInt IntKind.u8.bits (c.toNat:Int)).toNat=c.toNat:=by simp[IntKind.bits]
  have e2:(BitVec.ofInt IntKind.u8.bits 15).toNat=15:=rfl;rw[e1,e2];exact Nat.and_two_pow_sub_one_eq_mod _ 4
 grind[IntWalk.u8_in]
theorem bN : ∀bs:List UInt8,CV.denilL (bs.map dD)=bs.map dD
 |[]=>rfl
 |b::bs=>by simp only[List.map_cons,CV.denilL,bN bs];rfl
def gV :List aH→aH
 |[]=>[]
 |w::l=>iW w++l.flatMap fun v=>32::iW v
theorem bE0 (l:List aH)(w:aH):gV (l++[w])=gV l++((if l=[]then []else [32])++iW w):=by
 cases l with
 |nil=>simp[gV]
 |cons a l=>simp[gV]
variable {l:List aH}
theorem zI (h:i<l.length):gV (l.take (i+1))=gV (l.take i)++((if i=0 then []else [32])++iW l[i]):=by grind[List.take_succ_eq_append_getElem,bE0,List.take_eq_nil_iff]
def yE (l:List aH):aH:=gV l++[10]
def gC (ls:List (List aH)):aH:=ls.flatMap yE
def fO (l:List aH):Nat:=(l.map fun w=>sizeW w+1).sum
def sumD (ls:List (List aH)):Nat:=(ls.map fO).sum
theorem aL1 : ∀(l:List aH),l≠[]→(gV l).length+1=fO l
 |[],h=>absurd rfl h
 |w::l,_=>by
  have: ∀l:List aH,(l.flatMap fun v=>32::iW v).length=fO l:=by
   intro l;induction l with
   |nil=>rfl
   |cons v l ih=>grind[List.length_append,List.length_cons,qR,fO]
  grind[gV,List.length_append,qR,fO]
theorem bN8 (h:l≠[]):(yE l).length=fO l:=by grind[yE,List.length_append,aL1]
theorem aX4 (l:List aH):(gV l).length≤fO l:=by
 cases l with
 |nil=>simp[gV]
 |cons w l=>grind[aL1]
theorem qS : ∀{ls:List (List aH)},(∀l∈ls,l≠[])→(gC ls).length=sumD ls
 |[],_=>rfl
 |l::ls,h=>by
  have ih:=qS (ls:=ls) fun x hx=>h x (List.mem_cons_of_mem _ hx);grind[bN8,List.mem_cons_self,gC,sumD,List.length_append]
variable {ls:List (List aH)}
theorem zJ (h:i<ls.length):gC (ls.take (i+1))=gC (ls.take i)++yE ls[i]:=by
 simp only[List.take_succ_eq_append_getElem h,gC,List.flatMap_append,List.flatMap_cons,List.flatMap_nil,List.append_nil]
theorem bE1 (h:i<l.length):fO (l.take (i+1))=fO (l.take i)+(sizeW l[i]+1):=by
 simp only[List.take_succ_eq_append_getElem h,fO,List.map_append,List.sum_append,List.map_cons,List.map_nil,List.sum_cons,List.sum_nil,Nat.add_zero]
theorem bE2 (h:i<ls.length):sumD (ls.take (i+1))=sumD (ls.take i)+fO ls[i]:=by
 simp only[List.take_succ_eq_append_getElem h,sumD,List.map_append,List.sum_append,List.map_cons,List.map_nil,List.sum_cons,List.sum_nil,Nat.add_zero]
@[simp] theorem cL0 :gC []=[]:=rfl
@[simp] theorem cL1 :gV []=[]:=rfl
@[simp] theorem cL2 :fO []=0:=rfl
@[simp] theorem cL3 :sumD []=0:=rfl
theorem qT (l:List aH)(i:Nat):fO (l.take i)≤fO l:=by grind[fO,List.take_append_drop]
theorem aE6 (l:List (List aH))(i:Nat):sumD (l.take i)≤sumD l:=by grind[sumD,List.take_append_drop]
def mE (l:List aH):Int:=
 if l.length=0 then 1 else if 120<l.length then 3 else if l.any (fun w=>decide (32768<w.length))then 3 else 0
def okL (l:List aH):Bool:=mE l==0
theorem iM (l:List aH):okL l=true↔l≠[]∧l.length≤120∧ ∀w∈l,w.length≤32768:=by
 unfold okL mE;constructor
 ·
  intro h;split at h
  · grind
  ·
   split at h
   · grind
   · grind
 grind
theorem aX5 (h:okL l=true):fO l≤11796720:=by
 obtain⟨-,h1,h2⟩:=(iM l).1 h;have key: ∀l:List aH,(∀w∈l,w.length≤32768)→fO l≤98306*l.length:=by
  intro l;induction l with
  |nil=>simp_all
  |cons w l ih=>
   grind[List.mem_cons_of_mem,List.mem_cons_self,dX,fO,List.length_cons]
 grind
theorem aX6 (h: ∀l∈ls,okL l=true):sumD ls≤11796720*ls.length:=by
 induction ls with
 |nil=>simp_all
 |cons l ls ih=>
  grind[List.mem_cons_of_mem,aX5,List.mem_cons_self,sumD,List.length_cons]
theorem bN9 (l:List aH)(h: ∀w∈l,w.length≤32768):(gV l).length≤98306*l.length:=by
 have h1:=aX4 l;have key: ∀l:List aH,(∀w∈l,w.length≤32768)→fO l≤98306*l.length:=by
  intro l;induction l with
  |nil=>simp_all
  |cons w l ih=>
   grind[List.mem_cons_of_mem,List.mem_cons_self,dX,fO,List.length_cons]
 grind
theorem sV {α:Type}{p:α→Prop}{l:List α}(h:i<l.length)(h1:p l[i])(h0: ∀x∈l.take i,p x): ∀x∈l.take (i+1),p x:=by
 intro x hx;rw[List.take_succ_eq_append_getElem h,List.mem_append,List.mem_singleton]at hx;grind
def nM (ls:List (List aH)):Int:=
 if 1000<ls.length then 3 else match ls.find? (fun l=>!okL l)with
  |some l=>mE l
  |none=>if 262144<(gC ls).length then 3 else 0
def qU (ls:List (List aH)):aH:=if nM ls=0 then gC ls else []
theorem zK (h:1000<ls.length):nM ls=3:=by unfold nM;grind
theorem qV (h:ls.length≤1000)(hi:i<ls.length)(h0: ∀l∈ls.take i,okL l=true)(h1:okL ls[i]=false):nM ls=mE ls[i]:=by
 unfold nM;rw[if_neg (by omega)];grind[okL,List.find?_eq_some_iff_append,List.getElem_cons_drop,List.take_append_drop]
theorem aX7 (h:ls.length≤1000)(h0: ∀l∈ls,okL l=true):nM ls=if 262144<(gC ls).length then 3 else 0:=by
 unfold nM;grind
theorem bY4 (h:okL l=false):mE l≠0:=by grind[okL]
theorem iQ (h:nM ls≠0):qU ls=[]:=by unfold qU;grind
theorem aE7 (h:nM ls=0):qU ls=gC ls:=by unfold qU;grind
def mN (n:Nat):UInt8:=([48,49,50,51,52,53,54,55,56,57,97,98,99,100,101,102]:List UInt8).getD n 0
def aS9 (c:UInt8):List UInt8:=[mN (c.toNat/16),mN (c.toNat%16)]
def fV (bs:List UInt8):List UInt8:=bs.flatMap aS9
@[simp] theorem cL4 :fV []=[]:=rfl
theorem iR (bs:List UInt8):(fV bs).length=2*bs.length:=by
 induction bs with
 |nil=>rfl
 |cons c bs ih=>grind[fV,List.length_append,List.length_cons,aS9,List.length_nil]
theorem zL {bs:List UInt8}(h:i<bs.length):fV (bs.take (i+1))=fV (bs.take i)++aS9 bs[i]:=by
 simp only[List.take_succ_eq_append_getElem h,fV,List.flatMap_append,List.flatMap_cons,List.flatMap_nil,List.append_nil]
end Go.Pl
namespace Go.Hl
open Go Go.Pl
variable {fn:Func}{f:FuncId}{P:Program}
theorem zM {e:Array Value→Sem Value}{args:List CV}{R:CV→Prop}(hf:P.funcs[f]? =some fn)(hname:(fn.name== "runtime.NumGoroutine")=false)
  (hb:fn.body.isNone=true) (hn:Extern.findNext fn=none) (he:Extern.find fn=some e)
  (h: ∀(w:World) (ρ:Env) (O:Nat→Prop) (xs:List Value),RepHV w ρ O (args.map .c) xs→ ∃v x,R v∧RepV w ρ O (.c v) x∧(e xs.toArray).run P w= .ok x w):cK P f args R:=by
 refine⟨by grind[bB5],fun w ρ X xs hS hA hX=> .inr ⟨by grind[eG,Option.isNone_iff_eq_none],?_⟩⟩;obtain⟨v,x,hR,hv,hrun⟩:=h w ρ _ xs hA;refine⟨x,by simp_all[run_callFunc_extern],.c v,cW,ρ,x,rfl,⟨v,rfl,hR,rfl⟩,⟨hv,hS,by simp[HV.men],fun id o h=>by simp[cW]at h,Stay2.refl _ _,Moves.refl _ _⟩⟩
theorem aX8 {w:World}{O:Nat→Prop}: ∀{l:List UInt8} {xs:List Value},RepL w O (l.map u8) xs→xs=l.map fun b=> .int .u8 (b.toNat:Int)
 |[],xs,h=>by simpa[RepL]using h
 |b::l,xs,h=>by
  simp only[List.map_cons,RepL,u8,RepC]at h;obtain⟨c1,c2,rfl,rfl,h2⟩:=h;rw[aX8 h2];rfl
variable {x:Value}{l:List UInt8}{O:Nat→Prop}{ρ:Env}{w:World}
theorem sW (h:RepV w ρ O (.c (.slc (l.map u8))) x):(Extern.Bytes.bytesOf x).run P w= .ok ⟨l.toArray⟩ w:=by
 have h1:=h.single rfl;simp only[RepC,List.cons.injEq,and_true]at h1;obtain⟨a,cap,xs,sz,rfl,h2,_,h4,h5,h6⟩:=h1;have hx:=aX8 h2;cases a with
 |none=>
  have:=h5 rfl;have hl:l=[]:=by
   have:l.length=0:=by simp only[List.length_map]at h4;omega
   exact List.eq_nil_of_length_eq_zero this
  subst hl;simp only[Extern.Bytes.bytesOf,Sem.run_pure];rfl
 |some ad=>
  have hr:=(h6 ad rfl).1;have:=Go.Lib.run_loadBytesX (P:=P) w (l.map fun b=>(b.toNat:Int)) ad .empty (fun j y hj=>hr j _ (by
   rw[hx];rw[List.getElem?_map]at hj⊢;cases hb:l[j]? with
   |none=>rw[hb]at hj;cases hj
   |some b=>rw[hb]at hj;cases hj;rfl))
  simp only[List.length_map]at this;simp only[Extern.Bytes.bytesOf,List.length_map,this];congr 2;simp only[Go.Lib.bytesOf,List.map_map];have e:l.map ((fun n:Int=>n.toNat.toUInt8)∘fun b:UInt8=>(b.toNat:Int))=l:=by
   conv=>rhs;rw[←List.map_id l]
   exact List.map_congr_left fun b _=>by simp
  rw[e];simp
def jR (a b:List UInt8):Int:=if slt a b then-1 else if a==b then 0 else 1
def bO0 (a b:List UInt8):Int:=
 match(List.range (min a.length b.length)).find? fun i=>a.getD i 0 !=b.getD i 0 with
 |some i=>if a.getD i 0<b.getD i 0 then-1 else 1
 |none=>if a.length<b.length then-1 else if a.length>b.length then 1 else 0
theorem wK {p:Nat→Bool}(n:Nat):(List.range (n+1)).find? p=if p 0 then some 0 else((List.range n).find? fun i=>p (i+1)).map (· +1):=by
 rw[List.range_succ_eq_map,List.find?_cons,List.find?_map];split<;>simp_all[Function.comp];rfl
theorem aX9 : ∀a b:List UInt8,bO0 a b=jR a b
 |[],[]=>rfl
 |[],b::l=>by simp[bO0,jR,slt,Op.bytesLess]
 |a::l,[]=>by simp[bO0,jR,slt,Op.bytesLess]
 |a::l,b::m=>by
  have ih:=aX9 l m;have hmin:min (a::l).length (b::m).length=min l.length m.length+1:=by simp only[List.length_cons];omega
  unfold bO0 at ih⊢;rw[hmin,wK];by_cases hab:a=b
  · subst hab;simp only[List.getD_cons_zero,bne_self_eq_false,Bool.false_eq_true,if_false,List.getD_cons_succ];grind[jR,slt,Op.bytesLess,List.range,min]
  simp_all[List.getD_cons_zero,if_true,jR,slt,Op.bytesLess]
variable {y:Value}
theorem bY5 {a b:List UInt8}(ha:RepV w ρ O (.c (.slc (a.map u8))) x)(hb:RepV w ρ O (.c (.slc (b.map u8))) y):
  (Extern.BytealgCompare.compare #[x,y]).run P w= .ok (.int .i64 (jR a b)) w:=by
 change (Sem.run P (do pure (goInt (Extern.BytealgCompare.cmp (←Extern.Bytes.bytesOf x) (←Extern.Bytes.bytesOf y)))) w)=_;simp only[Sem.run_bind,sW ha,sW hb,Result.andThen_ok,Sem.run_pure,goInt];rw[←aX9];grind[ByteArray.size,Go.Lib.get!_eq,Extern.BytealgCompare.cmp,bO0,List.find?]
def fS (l:List UInt8)(c:UInt8):Int:=match l.findIdx? (· ==c)with|some i=>(i:Int)|none=> -1
theorem aL2 {α:Type}{p:α→Bool}(d:α): ∀(l:List α),(List.range l.length).find? (fun i=>p (l.getD i d))=l.findIdx? p
 |[]=>rfl
 |a::l=>by
  rw[List.length_cons,wK,List.findIdx?_cons];simp only[List.getD_cons_zero,List.getD_cons_succ];rw[aL2 d l]
variable {c:UInt8}
theorem aY0 (hx:(Extern.Bytes.bytesOf x).run P w= .ok ⟨l.toArray⟩ w)(hy:(Extern.Bytes.asByte y).run P w= .ok c w):
  (Extern.BytealgIndexByte.indexByte #[x,y]).run P w= .ok (.int .i64 (fS l c)) w:=by
 change (Sem.run P (do
  let b←Extern.Bytes.bytesOf x
  let c←Extern.Bytes.asByte y
  match(List.range b.size).find? fun i=>b[i]! ==c with
  |some i=>pure (goInt i)
  |none=>pure (goInt (-1))) w)=_
 simp only[Sem.run_bind,hx,hy,Result.andThen_ok];have h1:(⟨l.toArray⟩:ByteArray).size=l.length:=by simp[ByteArray.size]
 have h2: ∀i:Nat,(⟨l.toArray⟩:ByteArray)[i]! =l.getD i 0:=fun i=>by exact Go.Lib.get!_eq l i
 simp only[h1,h2,aL2 (p:=fun b=>b==c)];unfold fS;cases l.findIdx? fun b=>b==c<;>rfl
theorem wL (h:RepV w ρ O (.c (u8 c)) y):(Extern.Bytes.asByte y).run P w= .ok c w:=by
 have h1:=h.single rfl;simp_all[u8,RepC,List.cons.injEq,and_true,Extern.Bytes.asByte]
theorem cG4 (hf:P.funcs[f]? =some fn)(hname:(fn.name== "runtime.NumGoroutine")=false)(hb:fn.body.isNone=true)(hn:Extern.findNext fn=none)
  (he:Extern.find fn=some Extern.BytealgIndexByte.indexByte) (l:List UInt8) (c:UInt8):cK P f [.slc (l.map u8),u8 c] (fun v=>v= .int .i64 (fS l c)):=
 zM hf hname hb hn he fun w ρ O xs h=>by
  simp only[List.map_cons,List.map_nil,bQ,RepHV]at h;obtain⟨x,l1,rfl,hx,y,l2,rfl,hy,rfl⟩:=h;exact⟨_,_,rfl,eB _ _ _ _ _,aY0 (sW hx) (wL hy)⟩
theorem bY6 (hf:P.funcs[f]? =some fn)(hname:(fn.name== "runtime.NumGoroutine")=false)(hb:fn.body.isNone=true)(hn:Extern.findNext fn=none)
  (he:Extern.find fn=some Extern.BytealgIndexByte.indexByte) (l:List UInt8) (c:UInt8):cK P f [.str l,u8 c] (fun v=>v= .int .i64 (fS l c)):=
 zM hf hname hb hn he fun w ρ O xs h=>by
  simp only[List.map_cons,List.map_nil,bQ,RepHV]at h;obtain⟨x,l1,rfl,hx,y,l2,rfl,hy,rfl⟩:=h;have hx':(Extern.Bytes.bytesOf x).run P w= .ok ⟨l.toArray⟩ w:=by
   have h1:=hx.single rfl;simp only[RepC,List.cons.injEq,and_true]at h1;subst h1;rfl
  exact⟨_,_,rfl,eB _ _ _ _ _,aY0 hx' (wL hy)⟩
end Go.Hl
namespace Go.Pl
open Go Go.Hl
def bK (c:UInt8):List UInt8→List (List UInt8)
 |[]=>[[]]
 |b::l=>if b=c then []::bK c l else match bK c l with
  |x::xs=>(b::x)::xs
  |[]=>[[b]]
theorem gO (c:UInt8)(l:List UInt8):bK c l≠[]:=by
 cases l with
 |nil=>simp[bK]
 |cons b l=>grind[bK]
theorem pL (c:UInt8): ∀l:List UInt8,match l.findIdx? (· ==c)with
  |some i=>i<l.length∧bK c l=l.take i::bK c (l.drop (i+1))
  |none=>bK c l=[l]
 |[]=>rfl
 |b::l=>by
  have ih:=pL c l;rw[List.findIdx?_cons];by_cases h:b=c
  · grind[bK]
  ·
   have hb:(b==c)=false:=by simpa using h
   simp only[hb,Bool.false_eq_true,if_false];cases hf:l.findIdx? (· ==c)with
   |none=>
    simp_all[Option.map_none,bK,if_neg]
   |some i=>
    simp_all[Option.map_some,bK,if_neg,List.length_cons,List.take_succ_cons,List.drop_succ_cons,trivial]
variable {c:UInt8}
theorem qW {l:List UInt8}(h:fS l c<0):bK c l=[l]:=by
 have:=pL c l;grind[fS]
theorem iS {l:List UInt8}(h: ¬fS l c<0): ∃i:Nat,fS l c=(i:Int)∧i<l.length∧bK c l=l.take i::bK c (l.drop (i+1)):=by
 have:=pL c l;unfold fS at h⊢;grind
theorem kY (c:UInt8): ∀l:List UInt8,(bK c l).length≤l.length+1
 |[]=>by simp[bK]
 |b::l=>by
  have ih:=kY c l;grind[bK,List.length_cons]
theorem wM (c:UInt8): ∀(l:List UInt8),∀p∈bK c l,p.length≤l.length
 |[],p,hp=>by grind[bK]
 |b::l,p,hp=>by
  have ih:=wM c l;unfold bK at hp;split at hp
  · grind
  ·
   split at hp
   · grind
   grind
def valH (c:UInt8):Nat:=if 48≤c.toNat∧c.toNat≤57 then c.toNat-48 else if 65≤c.toNat∧c.toNat≤70 then c.toNat-55 else 16
def byteH (x y:UInt8):UInt8:=UInt8.ofNat (16*valH x+valH y)
def okH (x y:UInt8):Bool:=decide (valH x<16)&&decide (valH y<16)&&!cY (byteH x y)
def unB :List UInt8→Option aH
 |[]=>some []
 |c::l=>if cY c then(unB l).map (c::·)else if c=37 then match l with
   |x::y::l'=>if okH x y then(unB l').map (byteH x y::·)else none
   |_=>none
  else none
def unW (s:aH):Option aH:=if s=[126]then some []else if s=[]then none else unB s
variable {l:aH}
theorem zN {c:UInt8}(h:cY c=true):unB (c::l)=(unB l).map (c::·):=by
 rw[unB.eq_def];grind
theorem bY7 {c:UInt8}(h:cY c=false)(h1:c≠37∨l.length<2):unB (c::l)=none:=by
 rw[unB.eq_def];grind
theorem aY1 {x y:UInt8}(h:okH x y=true):unB (37::x::y::l)=(unB l).map (byteH x y::·):=by
 rw[unB.eq_def];simp_all[cY,Bool.false_eq_true,if_false,if_true]
theorem aL3 {x y:UInt8}(h:okH x y=false):unB (37::x::y::l)=none:=by simp_all[unB.eq_def,cY,Bool.false_eq_true,if_false,if_true]
def bY8 :List UInt8:=[48,49,50,51,52,53,54,55,56,57,65,66,67,68,69,70]
set_option maxRecDepth 20000 in
theorem qX (c:UInt8):fS bY8 c=if valH c<16 then(valH c:Int)else-1:=by
 have h: ∀n:Fin 256,fS bY8 (UInt8.ofNat n.1)=if valH (UInt8.ofNat n.1)<16 then(valH (UInt8.ofNat n.1):Int)else-1:=by decide
 have:=h ⟨c.toNat,c.toNat_lt⟩;simp_all
theorem bE3 {x y:UInt8}(hx:valH x<16)(hy:valH y<16):(byteH x y).toNat=16*valH x+valH y:=by grind[byteH,UInt8.toNat_ofNat']
def UnSt (s:aH)(i:Nat)(out:aH):Prop:=i≤s.length∧unB s=(unB (s.drop i)).map (out++·)∧(out=[]→i=0)∧out.length≤i
section
variable {s:aH}{i:Nat}{out:aH}
theorem UnSt.init (s:aH):UnSt s 0 []:=⟨Nat.zero_le _,by simp,fun _=>rfl,Nat.le_refl _⟩
theorem UnSt.plain (h:UnSt s i out)(hi:i<s.length)(hp:cY s[i]=true):UnSt s (i+1) (out++[s[i]]):=by
 obtain⟨_,h2,_,h4⟩:=h;refine⟨hi,?_,by simp,by grind⟩;rw[h2,List.drop_eq_getElem_cons hi,zN hp,Option.map_map];congr 1;grind
theorem UnSt.bad1 (h:UnSt s i out)(hi:i<s.length)(hp:cY s[i]=false)(h1:s[i]≠37∨s.length≤i+2):unB s=none:=by
 rw[h.2.1,List.drop_eq_getElem_cons hi,bY7 hp (h1.imp id fun h=>by grind)];rfl
theorem cE1 {s:aH}{i:Nat}(hi:i+2<s.length):s.drop i=s[i]::s[i+1]::s[i+2]::s.drop (i+3):=by
 rw[List.drop_eq_getElem_cons (show i<s.length by omega),List.drop_eq_getElem_cons (show i+1<s.length by omega),List.drop_eq_getElem_cons hi]
theorem UnSt.esc (h:UnSt s i out)(hi:i+2<s.length)(h37:s[i]=37)(hok:okH s[i+1] s[i+2]=true):UnSt s (i+3) (out++[byteH s[i+1] s[i+2]]):=by
 obtain⟨_,h2,_,h4⟩:=h;refine⟨hi,?_,by simp,by simp;omega⟩;rw[h2,cE1 hi,h37,aY1 hok,Option.map_map];congr 1;funext l;simp
theorem UnSt.bad2 (h:UnSt s i out)(hi:i+2<s.length)(h37:s[i]=37)(hok:okH s[i+1] s[i+2]=false):unB s=none:=by
 rw[h.2.1,cE1 hi,h37,aL3 hok];rfl
theorem nN (h:unB s=none)(h1:s≠[126]):unW s=none:=by simp_all[unW,if_neg]
theorem UnSt.fin (h:UnSt s i out)(hi:i=s.length)(h1:s≠[126]):unW s=if out=[]then none else some out:=by
 subst hi;obtain⟨_,h2,h3,h4⟩:=h;rw[List.drop_length]at h2;unfold unW;rw[if_neg h1];by_cases ho:out=[]
 · grind
 ·
  have hs:s≠[]:=by
   rintro rfl;simp only[List.length_nil,Nat.le_zero]at h4;exact ho (List.eq_nil_of_length_eq_zero h4)
  simp_all[if_neg,unB]
end
def CutR (l:List UInt8)(c:UInt8)(li re:List UInt8)(fd:Bool):Prop:=
 (fd=false∧fS l c<0∧li=l∧re=[])∨(fd=true∧ ∃i:Nat,fS l c=(i:Int)∧i<l.length∧li=l.take i∧re=l.drop (i+1))
def unL (r:aH):Option (List aH):=(bK 32 r).mapM unW
def unR (r:aH):Option (List aH):=match unL r with|some ws=>if okL ws then some ws else none|none=>none
def iH (b:aH):Option (List (List aH)):=
 if b=[]then some []else if(bK 10 b).getLast (gO 10 b)=[]then(bK 10 b).dropLast.mapM unR else none
variable {li re:aH}
theorem aL4 (hc:CutR l 10 li re true):iH l=(unR li).bind fun ws=>(iH re).map (ws::·):=by
 rcases hc with⟨h,_⟩|⟨_,i,h1,h2,rfl,rfl⟩
 · cases h
 ·
  obtain⟨i',h3,_,hsp⟩:=iS (l:=l) (c:=10) (by omega);have:i'=i:=by omega
  subst this;have hne:l≠[]:=by rintro rfl;simp at h2
  have hd:iH l=if(bK 10 (l.drop (i'+1))).getLast (gO 10 _)=[]then(l.take i'::(bK 10 (l.drop (i'+1))).dropLast).mapM unR else none:=by
   unfold iH;rw[if_neg hne];simp only[hsp];grind[List.getLast_cons,gO,List.dropLast_cons_of_ne_nil]
  rw[hd];have he:iH (l.drop (i'+1))=if(bK 10 (l.drop (i'+1))).getLast (gO 10 _)=[]then(bK 10 (l.drop (i'+1))).dropLast.mapM unR else none:=by
   unfold iH;split
   · rename_i h;rw[h];rfl
   · rfl
  rw[he];split
  ·
   rw[List.mapM_cons];cases unR (l.take i')with
   |none=>rfl
   |some ws=>cases(bK 10 (l.drop (i'+1))).dropLast.mapM unR<;>rfl
  simp_all
theorem wN (hc:CutR l 10 li re false)(hne:l≠[]):iH l=none:=by
 rcases hc with⟨_,h,_⟩|⟨h,_⟩
 all_goals simp_all[iH,if_neg,qW,List.getLast_singleton]
variable {fd:Bool}
theorem bO1 (hc:CutR l 10 li re fd)(hne:l≠[])(h:unR li=none):iH l=none:=by
 cases fd with
 |false=>exact wN hc hne
 |true=>rw[aL4 hc,h];rfl
theorem CutR.lt (hc:CutR l c li re fd)(hne:l≠[]):re.length<l.length∧li.length≤l.length:=by
 have:0<l.length:=List.length_pos_iff.2 hne;rcases hc with⟨_,_,rfl,rfl⟩|⟨_,i,_,h,rfl,rfl⟩
 all_goals grind
def wsT (r:aH)(i:Nat):List aH:=((bK 32 r).take i).map fun p=>(unW p).getD []
def bO2 (r:aH)(i:Nat):Prop:= ∀p∈(bK 32 r).take i,(unW p).isSome=true
variable {i:Nat}{r:aH}
theorem bO3 (h:i<(bK 32 r).length):wsT r (i+1)=wsT r i++[(unW (bK 32 r)[i]).getD []]:=by
 simp only[wsT,List.take_succ_eq_append_getElem h,List.map_append,List.map_cons,List.map_nil]
theorem wO (h:i≤(bK 32 r).length):(wsT r i).length=i:=by grind[wsT,List.length_map,List.length_take]
theorem bE4 (h:i<(bK 32 r).length)(h1:bO2 r i)(h2:(unW (bK 32 r)[i]).isSome=true):bO2 r (i+1):=by
 intro p hp;rw[List.take_succ_eq_append_getElem h,List.mem_append,List.mem_singleton]at hp;rcases hp with hp|rfl
 · exact h1 p hp
 · exact h2
theorem zO {α β:Type}{f:α→Option β}: ∀{l:List α} {x:α},x∈l→f x=none→l.mapM f=none
 |a::l,x,hx,h=>by
  rw[List.mapM_cons];rcases List.mem_cons.1 hx with rfl|hx
  · grind
  · rw[zO hx h];simp_all
theorem aL5 {α β:Type}{f:α→Option β}(d:β): ∀{l:List α},(∀x∈l,(f x).isSome=true)→l.mapM f=some (l.map fun x=>(f x).getD d)
 |[],_=>rfl
 |a::l,h=>by
  rw[List.mapM_cons,aL5 d fun x hx=>h x (List.mem_cons_of_mem _ hx)];grind[Option.isSome_iff_exists,List.mem_cons_self]
theorem bO4 (h:i<(bK 32 r).length)(h2:(unW (bK 32 r)[i]).isSome=false):unR r=none:=by
 unfold unR unL;rw[zO (List.getElem_mem h) (by simpa using h2)]
theorem bY9 (h:bO2 r (bK 32 r).length):unR r=if okL (wsT r (bK 32 r).length)then some (wsT r (bK 32 r).length)else none:=by
 unfold bO2 at h;rw[List.take_length]at h;unfold unR unL;rw[aL5 [] h];simp only[wsT,List.take_length]
def DecSt (b rest:aH)(ls:List (List aH)):Prop:=iH b=(iH rest).map (ls++·)∧rest.length≤b.length∧ls.length+rest.length≤b.length
theorem DecSt.init (b:aH):DecSt b b []:=⟨by simp,Nat.le_refl _,by simp⟩
variable {ls:List (List aH)}{b rest:aH}
theorem DecSt.bad (h:DecSt b rest ls)(hc:CutR rest 10 li re fd)(hne:rest≠[])(hb:unR li=none):iH b=none:=by
 rw[h.1,bO1 hc hne hb];rfl
theorem DecSt.bad0 (h:DecSt b rest ls)(hc:CutR rest 10 li re false)(hne:rest≠[]):iH b=none:=by
 rw[h.1,wN hc hne];rfl
theorem DecSt.next (h:DecSt b rest ls)(hc:CutR rest 10 li re true)(hne:rest≠[]){ws:List aH}(hb:unR li=some ws):DecSt b re (ls++[ws]):=by
 have hl:=hc.lt hne;obtain⟨h1,h2,h3⟩:=h;refine⟨?_,by omega,by grind⟩;rw[h1,aL4 hc,hb];cases iH re with
 |none=>rfl
 |some l=>simp
theorem DecSt.fin (h:DecSt b [] ls):iH b=some ls:=by
 rw[h.1];simp[iH]
def kE (b:aH):Int:=if 262144<b.length then 3 else match iH b with|some ls=>if 1000<ls.length then 2 else 0|none=>2
def mF (b:aH):List (List aH):=if kE b=0 then(iH b).getD []else []
end Go.Pl
