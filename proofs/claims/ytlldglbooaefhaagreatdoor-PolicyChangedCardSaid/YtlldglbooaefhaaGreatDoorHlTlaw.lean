/- HL: a law cC7 laid tables: the glue to a row's statement. By an AI agent. -/
import Derived.Test.YtlldglbooaefhaaGreatDoorHlZb
import Derived.Test.YtlldglbooaefhaaGreatDoorPl11
import Derived.Test.YtlldglbooaefhaaGreatDoorHlS
import Derived.WalkKit
import Derived.ProofKit
import Derived.OpenShut
import Derived.ReadAgain
import Derived.ChangeBears
import Derived.Sort.Grow
import Derived.Sort.EncStr
import Derived.Lib.LaidTab
import Derived.Deep.Draws
import Derived.LaidSub
set_option linter.unusedSimpArgs false
set_option linter.unusedVariables false
set_option linter.defProp false
namespace Go.Hl
open Go
section
variable {P:Program}{av:List Nat}{f:FuncId}{ob:Ob}{nid id n:Nat}{K:HV→Ob→Prop}{T e:TypeId}{sz:Nat}{v:CV}{l:List CV}{rest:List HV}
end
def aD6 (P:Program)(f:FuncId)(args:List CV)(R:CV→CV→CV→Prop):Prop:=
 HFn P f (args.map .c) 0 cQ (fun r ob'=> ∃u v x,r= .tup [.c u,.c v,.c x]∧R u v x∧ob'=cQ)
variable {R:CV→CV→CV→Prop}{r:HV}{ob:Ob}
theorem jO (cl:List Nat)(u v x:CV)(h:(r.close ob cl).norm= .tup [.c u,.c v,.c x])(hR:R u v x):mK 0 r ob (fun r ob'=> ∃u v x,r= .tup [.c u,.c v,.c x]∧R u v x∧ob'=cQ):=
 ⟨cl,id,.tup [.c u,.c v,.c x],cQ,⟨u,v,x,rfl,hR,rfl⟩,by rw[h];rfl,fun _ h=>by omega,fun _ _ _ _ h=>h,by simp[HV.men,HV.menL],fun j o h=>by simp[cQ]at h⟩
variable {K:HV→Ob→Prop}{nid:Nat}{f:FuncId}{av:List Nat}{P:Program}
theorem pL {args:List CV}(h:aD6 P f args R)(hfree:Free4 ob nid)(hK: ∀u v x,R u v x→K (.tup [.c u,.c v,.c x]) ob):
  HCall P av f (args.map .c) ob nid K:=by
 refine⟨[],args.map .c,cQ,_,h,jF args,⟨List.nodup_nil,by simp⟩,(HV.renL_c _ _).symm,fun j o h=>by simp[cQ]at h,fun r lob' hR _=>?_⟩;obtain⟨u,v,x,rfl,hv,rfl⟩:=hR;rw[kF hfree.all];exact hK u v x hv
variable {T:TypeId}
theorem aR7 {w:HV}(cl:List Nat)(u x v':CV)(h:(r.close ob cl).norm= .tup [.c u,.c x])(hb:ob 0=some (.box T w))(hw:(w.close ob cl).norm= .c v')(h0:0∉cl)(hR:R u x v'):
  mK 1 r ob (fun r ob'=> ∃u x v',r= .tup [.c u,.c x]∧ob'=fob [(0,.box T (.c v'))]∧R u x v'):=by
 refine⟨cl,id,.tup [.c u,.c x],fob [(0,.box T (.c v'))],⟨u,x,v',rfl,rfl,hR⟩,by grind[HV.ren,HV.renL],fun _ _=>rfl,fun _ _ _ _ h=>h,by simp[HV.men,HV.menL],fun j o ho=>?_⟩;by_cases e:j=0
 · subst e;simp only[fob_at,if_true,Option.some.injEq]at ho;subst ho;refine⟨by omega,by simp[HO.men,HV.men],h0,.box T w,hb,?_⟩;simp only[hw];rfl
 grind[fob_at,fob_nil]
def lst (os:List HO):Ob:=fun j=>os[j]?
theorem vY (o:HO)(os:List HO)(j:Nat):lst (o::os) (j+1)=lst os j:=by simp[lst]
def HGe (P:Program)(f:FuncId)(args:List HV)(os:List HO)(R:HV→List HO→Prop):Prop:=
 HFn P f args os.length (lst os) (fun r ob'=> ∃os',ob'=lst os'∧(os.length≤os'.length∧os'.length≤os.length+4)∧R r os')
def jP (m:Nat→Nat):Ob→Nat→List HO→Ob
 |ob,_,[]=>ob
 |ob,j,o::os=>jP m (upd ob (m j) (some (o.ren m))) (j+1) os
theorem oO (m:Nat→Nat)(i:Nat): ∀(os:List HO) (ob:Ob) (j:Nat),(∀t,t<os.length→m (j+t)≠i)→jP m ob j os i=ob i
 |[],_,_,_=>rfl
 |o::os,ob,j,h=>by
  rw[jP,oO m i os _ (j+1) fun t ht=>by have:=h (t+1) (by grind);grind];exact aY _ _ fun e=>h 0 (by simp) e.symm
theorem aK4 (m:Nat→Nat){N:Nat}(inj: ∀a b,a<N→b<N→m a=m b→a=b): ∀(os:List HO) (ob:Ob) (j t:Nat) (ht:t<os.length),j+os.length≤N→jP m ob j os (m (j+t))=some (os[t].ren m)
 |o::os,ob,j,0,ht,hN=>by
  show jP m (upd ob (m j) (some (o.ren m))) (j+1) os (m j)=_;grind[oO,List.length_cons,aP]
 |o::os,ob,j,t+1,ht,hN=>by
  have:=aK4 m inj os (upd ob (m j) (some (o.ren m))) (j+1) t (by grind) (by grind);rw[jP,show j+(t+1)=j+1+t from by omega,this];rfl
variable {j:Nat}{σ:List Nat}
theorem aR8 (h:j<σ.length):sub σ nid j=σ[j]:=by simp_all[sub,if_pos,List.getD_eq_getElem?_getD,List.getElem?_eq_getElem]
theorem aR9 (h:σ.length≤j):sub σ nid j=nid+(j-σ.length):=by simp_all[sub,if_neg]
theorem bV7 (hn:σ.Nodup)(ho: ∀s∈σ,s<nid∨nid+4≤s): ∀a b,a<σ.length+4→b<σ.length+4→sub σ nid a=sub σ nid b→a=b:=by grind[Nat.lt_or_ge,aR8,List.getElem_inj,aR9,List.getElem_mem]
variable {os:List HO}
theorem tP (hn:σ.Nodup)(ho: ∀s∈σ,s<nid∨nid+4≤s)(hfree:Free4 ob nid)(h1:σ.length≤os.length)(h2:os.length≤σ.length+4):
  bY ob σ nid (lst os)=jP (sub σ nid) ob 0 os:=by
 have inj:=bV7 hn ho;have hit: ∀t,(ht:t<os.length)→jP (sub σ nid) ob 0 os (sub σ nid t)=some (os[t].ren (sub σ nid)):=fun t ht=>by
  have:=aK4 (sub σ nid) inj os ob 0 t ht (by omega);grind
 funext i;unfold bY;split
 · grind[List.findIdx?_eq_some_iff_getElem,sub,aR8,lst,List.getElem?_eq_getElem]
 ·
  rename_i hj;have hmem:i∉σ:=fun h=>by grind
  split
  ·
   rename_i hr;have hi:sub σ nid (σ.length+(i-nid))=i:=by rw[aR9 (by omega)];omega
   by_cases hlt:σ.length+(i-nid)<os.length
   · grind[lst,List.getElem?_eq_getElem]
   · rw[oO,lst,List.getElem?_eq_none (by omega),hfree.all i hr.1 hr.2];all_goals grind
  · rename_i hr;rw[oO];intro t ht e;rw[Nat.zero_add]at e;grind[Nat.lt_or_ge,aR8,List.getElem_mem,aR9]
def aX6 (ob:Ob)(m:Nat→Nat):List Nat→List HO→Prop
 |[],[]=>True
 |s::σ,o::os=>ob s=some (o.ren m)∧aX6 ob m σ os
 |_,_=>False
theorem sI {ob:Ob}{m:Nat→Nat}: ∀{σ:List Nat} {os:List HO},aX6 ob m σ os→σ.length=os.length∧ ∀j o,lst os j=some o→ob (σ.getD j 0)=some (o.ren m)
 |[],[],_=>⟨rfl,fun j o h=>by simp[lst]at h⟩
 |s::σ,o::os,h=>by
  obtain⟨h1,h2⟩:=sI h.2;refine⟨by grind,fun j o' hj=>?_⟩;cases j with
  |zero=>cases hj;exact h.1
  |succ j=>grind[vY]
 |[],_::_,h=>h.elim
 |_::_,[],h=>h.elim
def eH (k:Nat):List HO→Prop
 |[]=>True
 |o::os=>o.men (· <k)∧eH k os
theorem zE {k:Nat}: ∀{os:List HO},eH k os→ ∀j o,lst os j=some o→o.men (· <k)
 |[],_,j,o,h=>by simp[lst]at h
 |o::os,h,0,o',hj=>by cases hj;exact h.1
 |o::os,h,j+1,o',hj=>by rw[vY]at hj;exact zE h.2 j o' hj
theorem bL3 {o:HO}(h:lst os j=some o):j<os.length:=(List.getElem?_eq_some_iff.1 h).1
variable {k:Nat}{args:List HV}
theorem eS (hk:k=os.length)(h1:eH k os)(h2:HV.menL (· <k) args):LocOk k args (lst os):=by
 subst hk;exact⟨fun j hj=>⟨os[j],by rw[lst,List.getElem?_eq_getElem hj]⟩,fun id o h=>⟨bL3 h,zE h1 id o h⟩,h2⟩
variable {largs:List HV}
theorem eZ {R:HV→List HO→Prop}(σ:List Nat)(h:HGe P f largs os R)(ha:args=HV.renL (sub σ nid) largs)
  (hob:aX6 ob (sub σ nid) σ os) (hn:σ.Nodup) (hav: ∀s∈σ,s∉av) (hfree:Free4 ob nid) (hm:eH os.length os) (hm2:HV.menL (· <os.length) largs)
  (hK: ∀r os',R r os'→K (r.ren (sub σ nid)) (jP (sub σ nid) ob 0 os')):HCall P av f args ob nid K:=by
 obtain⟨hl,hg⟩:=sI hob;have ho: ∀s∈σ,s<nid∨nid+4≤s:=fun s hs=>by
  obtain⟨j,hj,rfl⟩:=List.getElem_of_mem hs;have h1:=hg j os[j] (by rw[lst,List.getElem?_eq_getElem]);rw[List.getD_eq_getElem?_getD,List.getElem?_eq_getElem hj]at h1;rcases Nat.lt_or_ge σ[j] nid with h2|h2
  · grind
  ·
   rcases Nat.lt_or_ge σ[j] (nid+4)with h3|h3
   · rw[Option.getD_some,hfree.all _ h2 h3]at h1;grind
   grind
 unfold HGe at h;rw[←hl]at h hm hm2;refine⟨σ,largs,lst os,_,h,eS hl hm hm2,⟨hn,hav⟩,ha,hg,fun r lob' hR _=>?_⟩;obtain⟨os',rfl,⟨h1,h2⟩,hR⟩:=hR;grind[tP]
def tau (k:Nat)(new:List Nat)(j:Nat):Nat:=if j<k then j else if j-k<new.length then new.getD (j-k) 0 else k+new.sum+4+j
theorem bL4 : ∀{l:List Nat} {x:Nat},x∈l→x≤l.sum
 |y::l,x,h=>by
  rcases List.mem_cons.1 h with rfl|h
  · simp
  · have:=bL4 h;grind
theorem bV8 {new:List Nat}(hn:new.Nodup)(hk: ∀s∈new,k≤s): ∀i j,tau k new i=tau k new j→i=j:=by
 have key: ∀j,j-k<new.length→ ¬j<k→k≤tau k new j∧tau k new j≤new.sum:=fun j h1 h2=>by simp_all[tau,if_neg,if_pos,List.getD_eq_getElem?_getD,List.getElem?_eq_getElem,List.getElem_mem,bL4]
 have lo: ∀j,j<k→tau k new j=j:=fun j h=>by unfold tau;grind
 have hi: ∀j,¬j<k→ ¬j-k<new.length→tau k new j=k+new.sum+4+j:=fun j h1 h2=>by simp_all[tau,if_neg]
 intro i j h;by_cases i1:i<k<;>by_cases j1:j<k
 · rwa [lo i i1,lo j j1]at h
 · grind
 · grind
 ·
  by_cases i2:i-k<new.length<;>by_cases j2:j-k<new.length
  · unfold tau at h;rw[if_neg i1,if_pos i2,if_neg j1,if_pos j2,List.getD_eq_getElem?_getD,List.getElem?_eq_getElem i2,List.getD_eq_getElem?_getD,List.getElem?_eq_getElem j2]at h;grind[List.getElem_inj]
  all_goals grind
def fB (ob:Ob)(cl:List Nat):HO→HO
 | .box t v=> .box t (v.close ob cl).norm
 | .row e sz l=> .row e sz l
 | .mp e sz D=> .mp e sz D
 | .dead=> .dead
 | .tab T=> .tab T
 | .hrow e sz l=> .hrow e sz (HV.closeL ob cl l)
def bL5 (ob:Ob)(cl:List Nat)(k:Nat)(τ:Nat→Nat):Nat→List HO→Prop
 |_,[]=>True
 |j,o::os=>(o.men (· <k+4)∧τ j∉cl∧ ∃o0,ob (τ j)=some o0∧fB ob cl o0=o.ren τ)∧bL5 ob cl k τ (j+1) os
theorem zF {ob:Ob}{cl:List Nat}{k:Nat}{τ:Nat→Nat}: ∀{os:List HO} {j:Nat},bL5 ob cl k τ j os→ ∀t o,lst os t=some o→o.men (· <k+4)∧τ (j+t)∉cl∧ ∃o0,ob (τ (j+t))=some o0∧fB ob cl o0=o.ren τ
 |[],_,_,t,o,h=>by simp[lst]at h
 |o::os,j,h,0,o',ht=>by cases ht;exact h.1
 |o::os,j,h,t+1,o',ht=>by
  rw[vY]at ht;have:=zF h.2 t o' ht;grind
theorem eD {R:HV→List HO→Prop}(cl new:List Nat)(r':HV)(os':List HO)(hr:(r.close ob cl).norm=r'.ren (tau k new))(hm:r'.men (· <k+4))(ho:bL5 ob cl k (tau k new) 0 os')(hl:os'.length=k+new.length)
  (hn:new.Nodup) (hk: ∀s∈new,k≤s) (hl4:new.length≤4) (hR:R r' os'):mK k r ob (fun r ob'=> ∃os',ob'=lst os'∧(k≤os'.length∧os'.length≤k+4)∧R r os'):=by
 refine⟨cl,tau k new,r',lst os',⟨os',rfl,by omega,hR⟩,hr,fun j hj=>by unfold tau;grind,fun i j _ _ h=>bV8 hn hk i j h,hm,fun j o hj=>?_⟩;obtain⟨h1,h2,o0,h3,h4⟩:=zF ho j o hj;rw[Nat.zero_add]at h2 h3;refine⟨by have:=bL3 hj;omega,h1,h2,o0,h3,?_⟩;rw[←h4];cases o0<;>rfl
theorem aK5 {R:HV→List HO→Prop}(σ:List Nat)(h:HGe P f largs os R)(ha:args=HV.renL (sub σ nid) largs)
  (hob:aX6 ob (sub σ nid) σ os) (hn:σ.Nodup) (hav: ∀j,j<σ.length→σ.getD j 0∉av∨(σ.getD j 0+10000≤nid∧ ∀r os',R r os'→os'[j]? =os[j]?)) (hfree:Free4 ob nid) (hm:eH os.length os) (hm2:HV.menL (· <os.length) largs)
  (hK: ∀r os',R r os'→K (r.ren (sub σ nid)) (jP (sub σ nid) ob 0 os')):HCallL P av f args ob nid K:=by
 obtain⟨hl,hg⟩:=sI hob;have ho: ∀s∈σ,s<nid∨nid+4≤s:=fun s hs=>by
  obtain⟨j,hj,rfl⟩:=List.getElem_of_mem hs;have h1:=hg j os[j] (by rw[lst,List.getElem?_eq_getElem]);rw[List.getD_eq_getElem?_getD,List.getElem?_eq_getElem hj]at h1;rcases Nat.lt_or_ge σ[j] nid with h2|h2
  · grind
  ·
   rcases Nat.lt_or_ge σ[j] (nid+4)with h3|h3
   · rw[Option.getD_some,hfree.all _ h2 h3]at h1;grind
   grind
 unfold HGe at h;rw[←hl]at h hm hm2;refine⟨σ,largs,lst os,_,h,eS hl hm hm2,⟨hn,fun j hj=>(hav j hj).imp (fun h=>h) fun h=>⟨h.1,fun r lob' hR=>?_⟩⟩,ha,hg,fun r lob' hR _=>?_⟩
 · obtain⟨os',rfl,_,hR⟩:=hR;exact h.2 r os' hR
 · obtain⟨os',rfl,⟨h1,h2⟩,hR⟩:=hR;grind[tP]
def tQ (P:Program)(f:FuncId)(T:TypeId)(v:CV)(args:List CV)(R:CV→CV→CV→Prop):Prop:=
 HFn P f (.ptr 0 0::args.map .c) 1 (fob [(0,.box T (.c v))]) (fun r ob'=> ∃u x v',r= .tup [.c u,.c x]∧ob'=fob [(0,.box T (.c v'))]∧R u x v')
theorem bW {w:HV}(cl:List Nat)(u x v':CV)(h:(r.close ob cl).norm= .tup [.c u,.c x])(hb:ob 0=some (.box T w))(hw:(w.close ob cl).norm= .c v')(h0:0∉cl)(hR:R u x v'):
  mK 1 r ob (fun r ob'=> ∃u x v',r= .tup [.c u,.c x]∧ob'=fob [(0,.box T (.c v'))]∧R u x v'):=aR7 cl u x v' h hb hw h0 hR
theorem eJ {id:Nat}{v:CV}{args:List CV}(h:tQ P f T v args R)(hid:ob id=some (.box T (.c v)))(hav:id∉av)
  (hfree:Free4 ob nid) (hK: ∀u x v',R u x v'→K (.tup [.c u,.c x]) (upd ob id (some (.box T (.c v'))))):
  HCall P av f (.ptr id 0::args.map .c) ob nid K:=by
 refine⟨[id],.ptr 0 0::args.map .c,_,_,h,dN T v args,⟨by simp,by grind⟩,?_,fun j o hj=>?_,fun r lob' hR _=>?_⟩
 · simp only[HV.renL,HV.ren,HV.renL_c];rfl
 ·
  by_cases e:j=0
  · subst e;simp only[fob_at,if_true,Option.some.injEq]at hj;grind[HO.ren,HV.ren]
  grind[fob_at,fob_nil]
 · obtain⟨u,x,v',rfl,rfl,hR⟩:=hR;rw[aJ6 hfree];exact hK u x v' hR
end Go.Hl
namespace Go.Proofs.YtlldglbooaefhaaGreatDoor
open Go Go.Hl Go.Pl
set_option maxRecDepth 10000
def sP :=(And.intro (And.intro (And.intro (And.intro (And.intro @Go.Hl.hlift.eq_def @Go.Hl.hopI.eq_def) (And.intro @Go.Hl.hstep.eq_def @Go.Hl.hop.eq_def)) (And.intro (And.intro @Go.Hl.hint.eq_def @Go.Hl.hstr.eq_def) (And.intro @Go.Hl.hshift.eq_def @Go.Hl.hun.eq_def))) (And.intro (And.intro (And.intro @Go.Hl.hconv.eq_def @Go.Hl.hpick.eq_def) (And.intro @Go.Hl.hclo.eq_def @Go.Hl.hext.eq_def)) (And.intro (And.intro @Go.Hl.hmax.eq_def @Go.Hl.hslice.eq_def) (And.intro @Go.Hl.hindex.eq_def @Go.Hl.hindexAddr.eq_def)))) (And.intro (And.intro (And.intro (And.intro @Go.Hl.hfieldAddr.eq_def @Go.Hl.hfield.eq_def) (And.intro @Go.Hl.hload.eq_def @Go.Hl.hstore.eq_def)) (And.intro (And.intro @Go.Hl.happend.eq_def @Go.Hl.happend2.eq_def) (And.intro @Go.Hl.hslice2.eq_def @Go.Hl.hclear.eq_def))) (And.intro (And.intro (And.intro @Go.Hl.hmakeMap.eq_def @Go.Hl.hlookup.eq_def) (And.intro @Go.Hl.hmapUpdate.eq_def @Go.Pl.hbuildDig.eq_def)) (And.intro (And.intro @Go.Hl.hcopy.eq_def @Go.Hl.hmkIface.eq_def) (And.intro @Go.Hl.hassert.eq_def (And.intro @Go.Hl.hmakeSlice.eq_def @Go.Hl.happends.eq_def))))))
def sA :=(And.intro (And.intro (And.intro (And.intro (And.intro (And.intro (And.intro (And.intro @Go.Hl.HV.toC.eq_1 @Go.Hl.HV.toC.eq_2) (And.intro @Go.Hl.HV.toC.eq_3 @Go.Hl.HV.toCL.eq_1)) (And.intro (And.intro @Go.Hl.HV.toCL.eq_2 @Go.Hl.cells_mem_str) (And.intro @List.length_singleton.{0} (And.intro @beq_true @beq_false)))) (And.intro (And.intro (And.intro @decide_eq_true_eq @Go.Hl.denilL_str) (And.intro @Go.Hl.denilL_int @Go.Hl.hwalk2.eq_1)) (And.intro (And.intro @Go.Hl.hwalk2.eq_2 @Go.Hl.ids4.eq_1) (And.intro @Go.Hl.getF.eq_1 (And.intro @Go.Hl.isEff.eq_1 @Go.Hl.isEff.eq_2))))) (And.intro (And.intro (And.intro (And.intro @Go.Hl.isEff.eq_3 @Go.Hl.isEff.eq_4) (And.intro @Bool.or_false @List.append_nil.{0})) (And.intro (And.intro @Go.Hl.hlex.eq_1 @Go.Hl.hlex.eq_2) (And.intro @Go.Hl.hguard.eq_1 (And.intro @Go.Hl.hcallOf.eq_1 @Go.Hl.hcallOf.eq_2)))) (And.intro (And.intro (And.intro @Go.Hl.touch.eq_1 @Go.Hl.touch.eq_2) (And.intro @Go.Hl.touch.eq_3 @Go.Hl.touch.eq_4)) (And.intro (And.intro @Go.Hl.touch.eq_5 @Go.Hl.touch.eq_6) (And.intro @Go.Hl.touch.eq_7 (And.intro @Go.Hl.touch.eq_8 @Go.Hl.touch.eq_9)))))) (And.intro (And.intro (And.intro (And.intro (And.intro @Go.Hl.touch.eq_10 @Go.Hl.HV.ids.eq_1) (And.intro @Go.Hl.HV.ids.eq_2 @Go.Hl.HV.ids.eq_3)) (And.intro (And.intro @Go.Hl.HV.ids.eq_4 @Go.Hl.HV.ids.eq_5) (And.intro @Go.Hl.HV.ids.eq_6 (And.intro @Go.Hl.HV.ids.eq_7 @Go.Hl.ev.eq_1)))) (And.intro (And.intro (And.intro @Go.Hl.ev.eq_2 @Go.Hl.ev.eq_3) (And.intro @Go.Hl.ev.eq_4 @Go.Hl.cvC.eq_1)) (And.intro (And.intro @Go.Hl.cvC.eq_2 @Go.Hl.cvC1.eq_1) (And.intro @Go.Hl.cvC1.eq_2 (And.intro @Go.Hl.cvC1.eq_3 @Go.Hl.cvC1.eq_4))))) (And.intro (And.intro (And.intro (And.intro @Go.Hl.cvC1.eq_5 @Go.Hl.cvC1.eq_6) (And.intro @Go.Hl.cvC1.eq_7 @Go.Hl.cvC1.eq_8)) (And.intro (And.intro @Go.Hl.cvC1.eq_9 @Go.Hl.updo_at) (And.intro @Go.Hl.updo_none (And.intro @Go.Hl.updo.eq_1 @Go.Hl.updo.eq_2)))) (And.intro (And.intro (And.intro @Go.Hl.upd_at @Go.Hl.fin_at) (And.intro @Go.Hl.fin_nil @Go.Hl.finA_at)) (And.intro (And.intro @Go.Hl.finA_nil @Go.Hl.fob_at) (And.intro @Go.Hl.fob_nil (And.intro @Go.Hl.none0_at @Go.Hl.hlift_some))))))) (And.intro (And.intro (And.intro (And.intro (And.intro (And.intro @Go.Hl.hlift_none @Go.Hl.hthen.eq_1) (And.intro @Go.Hl.hthen.eq_2 @Go.Hl.hblk.eq_1)) (And.intro (And.intro @Go.Hl.hblk.eq_2 @Go.Hl.hbin_int) (And.intro @Go.Hl.hbin_str (And.intro @Go.Hl.hbin_bool @Go.Hl.isShift.eq_1)))) (And.intro (And.intro (And.intro @Go.Hl.isShift.eq_2 @Go.Hl.isShift.eq_3) (And.intro @Go.Pl.hbuild_agg @Go.Hl.hfill.eq_1)) (And.intro (And.intro @Go.Hl.hfill.eq_2 @Go.Hl.HV.norm.eq_1) (And.intro @List.set_cons_zero.{0} (And.intro @List.set_cons_succ.{0} @Go.Hl.hclosed.eq_1))))) (And.intro (And.intro (And.intro (And.intro @Go.Hl.hclosed.eq_2 @Go.Hl.hread.eq_1) (And.intro @Go.Hl.hread.eq_2 @Go.Hl.hread.eq_3)) (And.intro (And.intro @Go.Hl.hread.eq_4 @Go.Hl.hlo.eq_1) (And.intro @Go.Hl.hlo.eq_2 (And.intro @Go.Hl.hlo.eq_3 @Go.Hl.live.eq_1)))) (And.intro (And.intro (And.intro @Go.Hl.live.eq_2 @Go.Hl.live.eq_3) (And.intro @Go.Hl.live.eq_4 @Go.Hl.live.eq_5)) (And.intro (And.intro @Go.Hl.live.eq_6 @Go.Hl.HO.isBox.eq_1) (And.intro @Go.Hl.HO.isBox.eq_2 (And.intro @Go.Hl.HO.isRow.eq_1 @Go.Hl.HO.isRow.eq_2)))))) (And.intro (And.intro (And.intro (And.intro (And.intro @Go.Hl.TyD.isAgg.eq_1 @Go.Hl.TyD.isAgg.eq_2) (And.intro @Go.Hl.TyD.isAgg.eq_3 @Go.Hl.HV.sto.eq_1)) (And.intro (And.intro @Go.Hl.HV.sto.eq_2 @Go.Hl.HV.sto.eq_3) (And.intro @Go.Hl.HV.sto.eq_4 (And.intro @Go.Hl.HV.stoL.eq_1 @Go.Hl.HV.stoL.eq_2)))) (And.intro (And.intro (And.intro @Go.Hl.HV.isAgg.eq_1 @Go.Hl.HV.isAgg.eq_2) (And.intro @Go.Hl.HV.isAgg.eq_3 @Go.Hl.CV.isAgg.eq_1)) (And.intro (And.intro @Go.Hl.CV.isAgg.eq_2 @Go.Hl.HV.cells.eq_1) (And.intro @Go.Hl.HV.cells.eq_2 (And.intro @Go.Hl.HV.cells.eq_3 @Go.Hl.HV.cellsL.eq_1))))) (And.intro (And.intro (And.intro (And.intro @Go.Hl.HV.cellsL.eq_2 @Go.Hl.CV.cells.eq_1) (And.intro @Go.Hl.CV.cells.eq_2 @Go.Hl.CV.cellsL.eq_1)) (And.intro (And.intro @Go.Hl.CV.cellsL.eq_2 @Go.Hl.HV.getAt.eq_1) (And.intro @Go.Hl.HV.getAt.eq_2 (And.intro @Go.Hl.HV.getAt.eq_3 @Go.Hl.HV.getAtL.eq_1)))) (And.intro (And.intro (And.intro @Go.Hl.HV.getAtL.eq_2 @Go.Hl.CV.getAt.eq_1) (And.intro @Go.Hl.CV.getAt.eq_2 (And.intro @Go.Hl.CV.getAtL.eq_1 @Go.Hl.CV.getAtL.eq_2))) (And.intro (And.intro @Go.Hl.HV.setAt.eq_1 @Go.Hl.HV.setAt.eq_2) (And.intro @Go.Hl.HV.setAt.eq_3 (And.intro @Go.Hl.HV.setAtL.eq_1 @Go.Hl.HV.setAtL.eq_2)))))))) (And.intro (And.intro (And.intro (And.intro (And.intro (And.intro (And.intro @Go.Hl.CV.setAt.eq_1 @Go.Hl.CV.setAt.eq_2) (And.intro @Go.Hl.CV.setAtL.eq_1 @Go.Hl.CV.setAtL.eq_2)) (And.intro (And.intro @Go.Hl.HV.den.eq_1 @Go.Hl.HV.den.eq_2) (And.intro @Go.Hl.CV.denil.eq_1 (And.intro @Go.Hl.CV.denil.eq_2 @Go.Hl.CV.denil.eq_3)))) (And.intro (And.intro (And.intro @Go.Hl.CV.denil.eq_4 @Go.Hl.CV.denilL.eq_1) (And.intro @Go.Hl.CV.denilL.eq_2 @List.range.eq_1)) (And.intro (And.intro @List.range.loop.eq_1 @List.range.loop.eq_2) (And.intro @List.size_toArray.{0} (And.intro @List.length_cons.{0} @List.length_nil.{0}))))) (And.intro (And.intro (And.intro (And.intro @List.length_map.{0,0} @List.getElem?_toArray.{0}) (And.intro @List.getElem?_cons_zero.{0} @List.getElem?_cons_succ.{0})) (And.intro (And.intro @List.map_cons.{0,0} @List.map_nil.{0,0}) (And.intro @List.flatMap_cons.{0,0} (And.intro @List.flatMap_nil.{0,0} @List.toList_toArray.{0})))) (And.intro (And.intro (And.intro @List.not_mem_nil.{0} @List.mem_cons.{0}) (And.intro @List.nil_append.{0} @List.cons_append.{0})) (And.intro (And.intro @false_implies @implies_true.{0}) (And.intro @implies_true.{1} (And.intro @true_and @and_true)))))) (And.intro (And.intro (And.intro (And.intro (And.intro @and_self @ne_eq.{0}) (And.intro @ne_eq.{1} @not_false_eq_true)) (And.intro (And.intro @not_true_eq_false @Nat.lt_irrefl) (And.intro @Nat.zero_add (And.intro @Nat.add_zero @Nat.succ_ne_self)))) (And.intro (And.intro (And.intro @Option.map_some.{0,0} @Option.map_none.{0,0}) (And.intro @Option.bind_some.{0,0} @Option.isSome_some.{0})) (And.intro (And.intro @Bool.false_eq_true @Bool.true_eq_false) (And.intro @Int.toNat_natCast (And.intro @forall_eq_or_imp.{0} @forall_eq_or_imp.{1}))))) (And.intro (And.intro (And.intro (And.intro @forall_eq.{0} @forall_eq.{1}) (And.intro @decide_true @decide_false)) (And.intro (And.intro @Bool.not_true @Bool.not_false) (And.intro @beq_self_eq_true.{0} (And.intro @bne_self_eq_false.{0} @Go.Pl.hbuild_dig)))) (And.intro (And.intro (And.intro @Go.Pl.dg_cells @Go.Pl.dg_isAgg) (And.intro @Go.Pl.dg_denil @Go.Pl.dg_getAt)) (And.intro (And.intro @Go.Pl.dg_setAt @Go.Pl.denilL_dg) (And.intro @Go.Pl.us_cells (And.intro @Go.Hl.TyD.plain.eq_1 @Go.Hl.TyD.plain.eq_2))))))) (And.intro (And.intro (And.intro (And.intro (And.intro (And.intro @Go.Hl.TyD.plain.eq_3 @Go.Hl.TyD.plain.eq_4) (And.intro @Go.Hl.TyD.plain.eq_5 @Go.Hl.bytesC_map)) (And.intro (And.intro @Go.Pl.Rq.cells @Go.Pl.Rq.denil) (And.intro @Go.Pl.Rq.isAgg (And.intro @Go.Pl.Rq.getAll @Go.Pl.Rq.setAll)))) (And.intro (And.intro (And.intro @Go.Pl.Rq.fold @Go.Pl.denilL_Rq) (And.intro @Go.Pl.Rq.get_k @Go.Pl.Rq.set_k)) (And.intro (And.intro @Go.Pl.Rq.get_n @Go.Pl.Rq.set_n) (And.intro @Go.Pl.Rq.get_m (And.intro @Go.Pl.Rq.set_m @Go.Pl.Rq.get_t))))) (And.intro (And.intro (And.intro (And.intro @Go.Pl.Rq.set_t @Go.Pl.Nd.cells) (And.intro @Go.Pl.Nd.denil @Go.Pl.Nd.isAgg)) (And.intro (And.intro @Go.Pl.Nd.getAll @Go.Pl.Nd.setAll) (And.intro @Go.Pl.Nd.fold (And.intro @Go.Pl.denilL_Nd @Go.Pl.Nd.get_k)))) (And.intro (And.intro (And.intro @Go.Pl.Nd.set_k @Go.Pl.Nd.get_n) (And.intro @Go.Pl.Nd.set_n @Go.Pl.Nd.get_c)) (And.intro (And.intro @Go.Pl.Nd.set_c @Go.Pl.Nd.get_q) (And.intro @Go.Pl.Nd.set_q (And.intro @Go.Pl.Pr.cells @Go.Pl.Pr.denil)))))) (And.intro (And.intro (And.intro (And.intro (And.intro @Go.Pl.Pr.isAgg @Go.Pl.Pr.getAll) (And.intro @Go.Pl.Pr.setAll @Go.Pl.Pr.fold)) (And.intro (And.intro @Go.Pl.denilL_Pr @Go.Pl.Pr.get_a) (And.intro @Go.Pl.Pr.set_a (And.intro @Go.Pl.Pr.get_b @Go.Pl.Pr.set_b)))) (And.intro (And.intro (And.intro @Go.Pl.Pr.get_c @Go.Pl.Pr.set_c) (And.intro @Go.Pl.Pr.get_g @Go.Pl.Pr.set_g)) (And.intro (And.intro @Go.Pl.Pr.get_t @Go.Pl.Pr.set_t) (And.intro @Go.Pl.Po.cells (And.intro @Go.Pl.Po.denil @Go.Pl.Po.isAgg))))) (And.intro (And.intro (And.intro (And.intro @Go.Pl.Po.getAll @Go.Pl.Po.setAll) (And.intro @Go.Pl.Po.fold @Go.Pl.denilL_Po)) (And.intro (And.intro @Go.Pl.Po.get_n @Go.Pl.Po.set_n) (And.intro @Go.Pl.Po.get_v (And.intro @Go.Pl.Po.set_v @Go.Pl.Po.get_r)))) (And.intro (And.intro (And.intro @Go.Pl.Po.set_r @Go.Pl.Pt.cells) (And.intro @Go.Pl.Pt.denil (And.intro @Go.Pl.Pt.isAgg @Go.Pl.Pt.getAll))) (And.intro (And.intro @Go.Pl.Pt.setAll @Go.Pl.Pt.fold) (And.intro @Go.Pl.denilL_Pt (And.intro @Go.Pl.Pt.get_k @Go.Pl.Pt.get_c)))))))))
def sE :=(And.intro (And.intro (And.intro (And.intro @Go.Hl.hlex.eq_1 @Go.Hl.hlex.eq_2) (And.intro @Go.Hl.hwalk2.eq_1 @Go.Hl.hwalk2.eq_2)) (And.intro (And.intro @Go.Hl.hlexG.eq_1 @Go.Hl.hlexG.eq_2) (And.intro @Go.Hl.hwalk2G.eq_1 @Go.Hl.hwalk2G.eq_2))) (And.intro (And.intro (And.intro @Go.Hl.hthen.eq_1 @Go.Hl.hthen.eq_2) (And.intro @Go.Hl.hblk.eq_1 @Go.Hl.hblk.eq_2)) (And.intro (And.intro @List.size_toArray.{0} @List.length_cons.{0}) (And.intro @List.length_nil.{0} @Nat.zero_add))))
def sR :=(And.intro (And.intro (And.intro @List.range.eq_1 @List.range.loop.eq_1) (And.intro @List.range.loop.eq_2 @List.size_toArray.{0})) (And.intro (And.intro @List.length_cons.{0} @List.length_nil.{0}) (And.intro @Nat.zero_add @Nat.add_zero)))
def sH :=(And.intro (And.intro @Go.Hl.hop1.eq_1 (And.intro @Go.Hl.hgd.eq_1 @Go.Hl.hgd.eq_2)) (And.intro @List.getElem_toArray.{0} (And.intro @List.getElem_cons_zero.{0} @List.getElem_cons_succ.{0})))
def sN :=(And.intro (And.intro (And.intro @Go.Hl.hop1H.eq_1 @Go.Hl.hop1N.eq_1) (And.intro @Go.Hl.hop1L.eq_1 (And.intro @Go.Hl.hreadH.eq_def @Go.Hl.hreadA.eq_def))) (And.intro (And.intro @Go.Hl.hparts.eq_1 @Go.Hl.hparts.eq_2) (And.intro @Go.Hl.HO.isH.eq_def (And.intro @Go.Hl.nthH_zero @Go.Hl.nthH_succ))))
def tyS :=(And.intro (And.intro (And.intro (And.intro (And.intro (And.intro (And.intro @ty1 @ty2) (And.intro @ty3 (And.intro @ty4 @ty5))) (And.intro (And.intro @ty6 (And.intro @ty7 @ty8)) (And.intro @ty9 (And.intro @ty10 @ty11)))) (And.intro (And.intro (And.intro @ty12 @ty13) (And.intro @ty14 (And.intro @ty15 @ty16))) (And.intro (And.intro @ty17 (And.intro @ty18 @ty19)) (And.intro @ty20 (And.intro @ty21 @ty22))))) (And.intro (And.intro (And.intro (And.intro @ty23 @ty24) (And.intro @ty25 (And.intro @ty26 @ty27))) (And.intro (And.intro @ty28 (And.intro @ty29 @ty30)) (And.intro @ty31 (And.intro @ty32 @ty33)))) (And.intro (And.intro (And.intro @ty34 (And.intro @ty35 @ty36)) (And.intro @ty37 (And.intro @ty38 @ty39))) (And.intro (And.intro @ty40 (And.intro @ty41 @ty42)) (And.intro @ty43 (And.intro @ty44 @ty45)))))) (And.intro (And.intro (And.intro (And.intro (And.intro @ty46 @ty47) (And.intro @ty48 (And.intro @ty50 @ty51))) (And.intro (And.intro @ty52 (And.intro @ty53 @ty54)) (And.intro @ty55 (And.intro @ty57 @ty58)))) (And.intro (And.intro (And.intro @ty59 @ty60) (And.intro @ty61 (And.intro @ty62 @ty63))) (And.intro (And.intro @ty64 (And.intro @ty65 @ty67)) (And.intro @ty68 (And.intro @ty69 @ty70))))) (And.intro (And.intro (And.intro (And.intro @ty71 @ty72) (And.intro @ty73 (And.intro @ty74 @ty75))) (And.intro (And.intro @ty76 (And.intro @ty77 @ty78)) (And.intro @ty79 (And.intro @ty80 @ty81)))) (And.intro (And.intro (And.intro @ty82 (And.intro @ty83 @ty84)) (And.intro @ty86 (And.intro @ty87 @ty88))) (And.intro (And.intro @ty89 (And.intro @ty90 @ty91)) (And.intro @ty92 (And.intro @ty93 @ty94))))))) (And.intro (And.intro (And.intro (And.intro (And.intro (And.intro @ty96 @ty97) (And.intro @ty98 (And.intro @ty99 @ty100))) (And.intro (And.intro @ty101 (And.intro @ty102 @ty103)) (And.intro @ty104 (And.intro @ty106 @ty107)))) (And.intro (And.intro (And.intro @ty108 @ty109) (And.intro @ty110 (And.intro @ty111 @ty112))) (And.intro (And.intro @ty113 (And.intro @ty114 @ty115)) (And.intro @ty116 (And.intro @ty117 @ty119))))) (And.intro (And.intro (And.intro (And.intro @ty120 @ty122) (And.intro @ty124 (And.intro @ty125 @ty126))) (And.intro (And.intro @ty127 (And.intro @ty128 @ty130)) (And.intro @ty132 (And.intro @ty133 @ty135)))) (And.intro (And.intro (And.intro @ty136 (And.intro @ty137 @ty138)) (And.intro @ty139 (And.intro @ty140 @ty141))) (And.intro (And.intro @ty142 (And.intro @ty143 @ty144)) (And.intro @ty145 (And.intro @ty146 @ty147)))))) (And.intro (And.intro (And.intro (And.intro (And.intro @ty149 @ty150) (And.intro @ty151 (And.intro @ty153 @ty154))) (And.intro (And.intro @ty155 (And.intro @ty156 @ty157)) (And.intro @ty159 (And.intro @ty160 @ty162)))) (And.intro (And.intro (And.intro @ty164 @ty165) (And.intro @ty166 (And.intro @ty167 @ty168))) (And.intro (And.intro @ty169 (And.intro @ty170 @ty171)) (And.intro @ty172 (And.intro @ty173 @ty175))))) (And.intro (And.intro (And.intro (And.intro @ty176 @ty177) (And.intro @ty178 (And.intro @ty180 @ty181))) (And.intro (And.intro @ty182 (And.intro @ty183 @ty184)) (And.intro @ty185 (And.intro @ty186 @ty187)))) (And.intro (And.intro (And.intro @ty188 (And.intro @ty192 @ty193)) (And.intro @ty194 (And.intro @ty195 @ty196))) (And.intro (And.intro @ty197 (And.intro @ty198 @ty199)) (And.intro @ty200 (And.intro @eqdg184 @nedg184))))))))
theorem AI {p q:Prop}(h:q)(hp:p:=by first|omega|(simp only[maxLen];omega)|assumption|(simp[CV.cells];done)|(simp[CV.cells,maxLen];omega)):p∧q:=⟨hp,h⟩
section
variable {P:Program}{ops:Array Oper}{nx:Nat}{Q:Fr→Ob→Prop}{fr:Fr}{ob:Ob}{c:Bool}
theorem aE {l:List Nat}(d:Nat)(h:fr d= .c (.bool c))(hT:c=true→hlex P ops nx Q l fr ob)(hF:c=false→hlex P ops nx Q l fr ob):hlex P ops nx Q l fr ob:=by
  cases c
  · exact hF rfl
  · exact hT rfl
theorem aD7 {l:nD}{C:jK}(d:Nat)(h:fr d= .c (.bool c))(hT:c=true→hwalk2 P ops nx Q l C fr ob)(hF:c=false→hwalk2 P ops nx Q l C fr ob):hwalk2 P ops nx Q l C fr ob:=by
  cases c
  · exact hF rfl
  · exact hT rfl
end
end Go.Proofs.YtlldglbooaefhaaGreatDoor
namespace Go.Hl
open Go
inductive HasTy (P:Program):TypeId→CV→Prop where
 |bool {t:TypeId} (hu:P.underlying t=some .bool) (b:Bool):HasTy P t (.bool b)
 |int {t:TypeId} {k:IntKind} (hu:P.underlying t=some (.int k)) {n:Int} (hw:(Lit.int k n).wf=true):HasTy P t (.int k n)
 |str {t:TypeId} (hu:P.underlying t=some .string) {s:List UInt8} (hs:s.length≤maxLen):HasTy P t (.str s)
 |slc {t e:TypeId} (hu:P.underlying t=some (.slice e)) {l:List CV} (hl: ∀x∈l,HasTy P e x) (hn:l.length≤maxLen):HasTy P t (.slc l)
 |arr {t e:TypeId} {m:Nat} (hu:P.underlying t=some (.array m e)) {l:List CV} (hl: ∀x∈l,HasTy P e x) (hn:l.length=m):HasTy P t (.agg l)
 |struct {t:TypeId} {fs:Array Field} (hu:P.underlying t=some (.struct fs)) {l:List CV} (hn:l.length=fs.size) (hl: ∀(i:Nat) (f:Field) (x:CV),fs.toList[i]? =some f→l[i]? =some x→HasTy P f.type x):HasTy P t (.agg l)
variable {c:CV}{t:TypeId}{P:Program}
theorem HasTy.of_int {k:IntKind}(hu:P.underlying t=some (.int k))(h:HasTy P t c): ∃n,c= .int k n∧(Lit.int k n).wf=true:=by
 cases h with
 |int h2 hw=>grind
 |bool h2|str h2|slc h2|arr h2|struct h2=>rw[hu]at h2;cases h2
theorem HasTy.of_str (hu:P.underlying t=some .string)(h:HasTy P t c): ∃s,c= .str s∧s.length≤maxLen:=by
 cases h with
 |str h2 hs=>grind
 |int h2|bool h2|slc h2|arr h2|struct h2=>rw[hu]at h2;cases h2
theorem HasTy.of_slc {e:TypeId}(hu:P.underlying t=some (.slice e))(h:HasTy P t c): ∃l,c= .slc l∧(∀x∈l,HasTy P e x)∧l.length≤maxLen:=by
 cases h with
 |slc h2 hl hn=>grind
 |int h2|bool h2|str h2|arr h2|struct h2=>rw[hu]at h2;cases h2
theorem HasTy.of_struct {fs:Array Field}(hu:P.underlying t=some (.struct fs))(h:HasTy P t c):
  ∃l,c= .agg l∧l.length=fs.size∧ ∀(i:Nat) (f:Field) (x:CV),fs.toList[i]? =some f→l[i]? =some x→HasTy P f.type x:=by
 cases h with
 |struct h2 hn hl=>grind
 |int h2|bool h2|str h2|slc h2|arr h2=>rw[hu]at h2;cases h2
def lV (P:Program):Nat→TypeId→Bool
 |0,_=>false
 |n+1,t=>match P.underlying t with
  |some .bool|some (.int _)|some .string=>true
  |some (.slice e)=>lV P n e
  |some (.array _ e)=>lV P n e
  |some (.struct fs)=>fs.toList.all fun f=>lV P n f.type
  |_=>false
theorem lW {α:Type}{w:World}{O:Nat→Prop}{g:α→List Value}{R:α→CV→Prop}: ∀(l:List α),(∀a∈l,∃c,RepC w O c (g a)∧R a c)→
  ∃cl:List CV,RepL w O cl (l.flatMap g)∧cl.length=l.length∧ ∀(i:Nat) a c,l[i]? =some a→cl[i]? =some c→R a c
 |[],_=>⟨[],by simp[RepL],rfl,by simp⟩
 |a::l,h=>by
  obtain⟨c,h1,h2⟩:=h a (by simp);obtain⟨cl,h3,h4,h5⟩:=lW l (fun x hx=>h x (by grind));refine⟨c::cl,by simp only[List.flatMap_cons,RepL];grind,by grind,fun i x y hx hy=>?_⟩;grind
theorem vZ {cw:Field→Nat}{cs:List Value}: ∀(fs:List Field) (k:Nat),(∀(j:Nat) f,fs[j]? =some f→f.offset=k+((fs.take j).map cw).sum)→
  fs.flatMap (fun f=>(cs.drop f.offset).take (cw f))=(cs.drop k).take ((fs.map cw).sum)
 |[],k,_=>by simp
 |f::fs,k,h=>by
  have h0:=h 0 f rfl;simp only[List.take_zero,List.map_nil,List.sum_nil,Nat.add_zero]at h0;have ih:=vZ (cw:=cw) (cs:=cs) fs (k+cw f) (fun j g hg=>by
   have:=h (j+1) g (by grind);grind)
  grind[List.drop_drop]
theorem wC {cs:List Value}(c:Nat): ∀(m:Nat),(List.range m).flatMap (fun i=>(cs.drop (i*c)).take c)=cs.take (m*c)
 |0=>by simp
 |m+1=>by
  rw[List.range_succ,List.flatMap_append,wC c m];simp_all[List.flatMap_cons,List.flatMap_nil,List.append_nil,List.take_add,Nat.succ_mul]
theorem wD {w:World}{a:Addr}{c:Nat}{g:Nat→List Value}: ∀(m:Nat),(∀i,i<m→(g i).length=c∧ ∀r,r<c→w.cell? ((a.add (i*c)).add r)=(g i)[r]?)→
  ((List.range m).flatMap g).length=m*c∧ ∀j u,((List.range m).flatMap g)[j]? =some u→w.cell? (a.add j)=some u
 |0,_=>by simp
 |m+1,h=>by
  obtain⟨h1,h2⟩:=wD m (fun i hi=>h i (by omega));obtain⟨h3,h4⟩:=h m (by omega);rw[List.range_succ,List.flatMap_append];simp only[List.flatMap_cons,List.flatMap_nil,List.append_nil];refine⟨by rw[List.length_append,h1,h3,Nat.succ_mul],fun j u hj=>?_⟩;grind[List.getElem?_append_left,List.getElem?_append_right,List.getElem?_eq_some_iff,Addr.add_add]
section
variable {H:Type}{enc:TypeId×Value→H}{P:Program}{T:TypeId→Prop}{w:World}{base:Nat}{sp:Nat→Bool}{held:Bool}
theorem qM (K:Kids P T): ∀(m:Nat) (t:TypeId),lV P m t=true→T t→ ∀(n:Nat) (cs:List Value) (x:DataW H×List MemPlace),DataW.trod enc P w base sp held n t cs=some x→
  ∃c,RepC w (fun _=>False) c cs∧HasTy P t c∧cs.length=cs.length
 |0,t,hp,_,_,_,_,_=>by simp[lV]at hp
 |m+1,t,hp,hT,0,cs,x,h=>by simp[DataW.trod]at h
 |m+1,t,hp,hT,n+1,cs,x,h=>by
  unfold lV at hp;split at hp
  ·
   rename_i hu;unfold DataW.trod at h;rw[hu]at h;split at h
   case h_1=>rename_i b h1;exact⟨.bool b,by simp[RepC],.bool hu b,rfl⟩
   all_goals grind
  ·
   rename_i k hu;unfold DataW.trod at h;rw[hu]at h;split at h
   case h_2=>
    rename_i k' k2 n2 h1;cases h1;split at h
    · rename_i hc;obtain⟨rfl,hw⟩:=hc;exact⟨.int _ n2,by simp[RepC],.int hu hw,rfl⟩
    grind
   all_goals grind
  ·
   rename_i hu;unfold DataW.trod at h;rw[hu]at h;split at h
   case h_4=>
    rename_i s h1;split at h
    · rename_i hc;refine⟨.str s.data.toList,by simp[RepC],.str hu ?_,rfl⟩;simp_all
    grind
   all_goals grind
  ·
   rename_i e hu;unfold DataW.trod at h;rw[hu]at h;split at h
   case h_7=>
    rename_i el h1;exact⟨.slc [],by simp only[RepC];exact⟨none,0,[],0,rfl,by simp[RepL],by simp,by simp,fun _=>rfl,fun ad had=>(by grind)⟩,.slc hu (by simp) (by simp),rfl⟩
   case h_8=>
    rename_i e' a len cap h1;cases h1;simp only at h;split at h
    ·
     rename_i hc;obtain⟨hb,hlc,hcm⟩:=hc;rw[Option.bind_eq_some_iff]at h;obtain⟨elems,he,_⟩:=h;have hel: ∀i,i<len→ ∃cl,w.cells? base (a.add (i*P.cellsOf e)) (P.cellsOf e)=some cl∧ ∃y,DataW.trod enc P w base sp held n e cl=some y:=fun i hi=>by
      have:=mapM_some_get he i i (by grind);grind[hlen,mapM_some_length,List.length_range,List.getElem?_eq_getElem,Option.bind_eq_some_iff]
     let g:Nat→List Value:=fun i=>(w.cells? base (a.add (i*P.cellsOf e)) (P.cellsOf e)).getD []
     have hg: ∀i,i<len→(g i).length=P.cellsOf e∧ ∀r,r<P.cellsOf e→w.cell? ((a.add (i*P.cellsOf e)).add r)=(g i)[r]? :=fun i hi=>by
      obtain⟨cl,h3,_⟩:=hel i hi;obtain⟨_,h4,h5⟩:=World.cells?_some h3;grind
     obtain⟨cl,hr,hlen,hty⟩:=lW (w:=w) (O:=fun _=>False) (g:=g) (R:=fun i c=>HasTy P e c∧c.cells=P.cellsOf e) (List.range len) (fun i hi=>by
      have hi':=List.mem_range.1 hi;obtain⟨cl,h3,y,h4⟩:=hel i hi';have hgi:g i=cl:=by simp[g,h3]
      obtain⟨c,q1,q2,_⟩:=qM K m e hp (K.slice hT hu) n cl y h4;grind[bG,World.cells?_some])
     simp only[List.length_range]at hlen;have hmem: ∀x∈cl,HasTy P e x∧x.cells=P.cellsOf e:=fun x hx=>by
      obtain⟨i,hi,rfl⟩:=List.getElem_of_mem hx;exact hty i i _ (List.getElem?_range (by omega)) (by rw[List.getElem?_eq_getElem hi])
     refine⟨.slc cl,?_,.slc hu (fun x hx=>(hmem x hx).1) (by omega),rfl⟩;simp only[RepC];refine⟨some a,cap,_,P.cellsOf e,by rw[hlen],hr,fun v hv=>(hmem v hv).2,by omega,fun hh=>(by grind),fun ad had=>?_⟩;cases had;exact⟨(wD len hg).2,fun _ h=>h⟩
    grind
   all_goals grind
  ·
   rename_i k e hu;unfold DataW.trod at h;rw[hu]at h;split at h
   case h_10=>
    rename_i cs0 _ _ k' e' h1;cases h1;split at h
    ·
     rename_i hc;rw[Option.map_eq_some_iff]at h;obtain⟨xs,hxs,_⟩:=h;obtain⟨hTe,hce⟩:=K.array hT hu;obtain⟨cl,hr,hlen,hty⟩:=lW (w:=w) (O:=fun _=>False) (g:=fun i=>(cs0.drop (i*P.cellsOf e)).take (P.cellsOf e)) (R:=fun i c=>HasTy P e c) (List.range k) (fun i hi=>by
      have hi':=List.mem_range.1 hi;have:=mapM_some_get hxs i i (by grind);have hlen:=mapM_some_length hxs;simp only[List.length_range]at hlen;rw[List.getElem?_eq_getElem (by omega)]at this;obtain⟨c,q1,q2,_⟩:=qM K m e hp hTe n _ _ this;grind)
     simp only[List.length_range]at hlen;rw[wC,←hce,←hc,List.take_length]at hr;refine⟨.agg cl,hr,.arr hu (fun x hx=>?_) hlen,rfl⟩;obtain⟨i,hi,rfl⟩:=List.getElem_of_mem hx;exact hty i i _ (List.getElem?_range (by omega)) (by rw[List.getElem?_eq_getElem hi])
    grind
   all_goals grind
  ·
   rename_i fs hu;unfold DataW.trod at h;rw[hu]at h;split at h
   case h_9=>
    rename_i cs0 _ _ fs' h1;cases h1;split at h
    ·
     rename_i hc;rw[Option.map_eq_some_iff]at h;obtain⟨xs,hxs,_⟩:=h;obtain⟨hTf,hsum,hoff⟩:=K.struct hT hu;obtain⟨cl,hr,hlen,hty⟩:=lW (w:=w) (O:=fun _=>False) (g:=fun f:Field=>(cs0.drop f.offset).take (P.cellsOf f.type)) (R:=fun f c=>HasTy P f.type c) fs.toList (fun f hf=>by
      obtain⟨i,hi,rfl⟩:=List.getElem_of_mem hf;have:=mapM_some_get hxs i _ (List.getElem?_eq_getElem hi);have hlen:=mapM_some_length hxs;rw[List.getElem?_eq_getElem (by omega)]at this;obtain⟨c,q1,q2,_⟩:=qM K m _ (List.all_eq_true.1 hp _ (List.getElem_mem hi)) (hTf _ (List.getElem_mem hi)) n _ _ this;grind)
     rw[vZ (cw:=fun f=>P.cellsOf f.type) fs.toList 0 (fun j f hf=>by grind),List.drop_zero,←hsum,←hc,List.take_length]at hr;exact⟨.agg cl,hr,.struct hu (by grind) hty,rfl⟩
    grind
   all_goals grind
  grind
theorem uF {t:TypeId}{v:Value}{c:CV}(hc:HasTy P t c)(h:Value.okWide P w .any base t v):c.isAgg=Value.isAgg' v:=by
 cases hc with
 |bool hu b=>unfold Value.okWide at h;rw[hu]at h;simp only[Cell.okWide,hu]at h;cases v<;>simp_all[Cell.ok,CV.isAgg,Value.isAgg']
 |int hu hw=>unfold Value.okWide at h;rw[hu]at h;simp only[Cell.okWide,hu]at h;cases v<;>simp_all[Cell.ok,CV.isAgg,Value.isAgg']
 |str hu hs=>unfold Value.okWide at h;rw[hu]at h;simp only[Cell.okWide,hu]at h;cases v<;>simp_all[Cell.ok,CV.isAgg,Value.isAgg']
 |slc hu hl hn=>unfold Value.okWide at h;rw[hu]at h;simp only[Cell.okWide,hu]at h;cases v<;>simp_all[Cell.ok,CV.isAgg,Value.isAgg']
 |arr hu hl hn=>unfold Value.okWide at h;rw[hu]at h;obtain⟨cs,rfl,_⟩:=h;rfl
 |struct hu hn hl=>unfold Value.okWide at h;rw[hu]at h;obtain⟨cs,rfl,_⟩:=h;rfl
theorem aK6 (b:Nat): ¬Own (fun _=>none) b:=by rintro⟨_,_,h,_⟩;cases h
theorem qN (K:Kids P T){m:Nat}: ∀{ts:List TypeId} {vs:List Value} {ds:List (DataW H)} {ps:List MemPlace},DataW.TrodAll enc P w base sp held ts vs ds ps→(∀t∈ts,lV P m t=true∧T t)→
  (∀(j:Nat) t v,ts[j]? =some t→vs[j]? =some v→Value.okWide P w .any 0 t v)→
  ∃cs:List CV,RepHV w (fun _=>none) (Owned (fun _=>none) (fun _=>False)) (cs.map .c) vs∧cs.length=ts.length∧ds.length=ts.length∧ ∀(j:Nat) t c,ts[j]? =some t→cs[j]? =some c→HasTy P t c
 |[],vs,ds,ps,h,_,_=>by
  obtain⟨rfl,rfl,rfl⟩:=ChangeShapes.trodAll_nil h;exact⟨[],by simp[RepHV],rfl,rfl,by simp⟩
 |t::ts,vs,ds,ps,h,hp,ho=>by
  obtain⟨v,vs1,d,ds1,a,b,rfl,rfl,rfl,⟨n,h1⟩,h2⟩:=ChangeShapes.trodAll_cons h;obtain⟨c,q1,q2,_⟩:=qM (w:=w) K m t (hp t (by simp)).1 (hp t (by simp)).2 n _ _ h1;obtain⟨cs,r1,r2,r3,r4⟩:=qN K h2 (fun t ht=>hp t (by simp[ht])) (fun j t v h3 h4=>ho (j+1) t v (by simpa using h3) (by simpa using h4));have hst:Stay w (fun _=>False) w (Owned (fun _=>none) (fun _=>False)):=⟨fun b _ _=>⟨rfl,fun hb=>hb.elim (fun x=>x) (aK6 b)⟩⟩;refine⟨c::cs,?_,by simp[r2],by simp[r3],fun j t' c' h3 h4=>?_⟩
  · rw[List.map_cons,bK];exact⟨v,vs1,rfl,⟨by simp only[RepH];exact q1.stay hst,uF q2 (ho 0 t v rfl rfl)⟩,r1⟩
  ·
   cases j with
   |zero=>simp at h3 h4;rw[←h3,←h4];exact q2
   |succ j=>simp at h3 h4;exact r4 j t' c' h3 h4
theorem bD3 {w w':World}(h: ∀b,b<w.heap.size→w'.heap[b]? =w.heap[b]?){p:MemPlace}(hp:p.block<w.heap.size):w.sameAt w' p:=by
 cases p with
 |cell b off=>exact World.cell?_of_block (h b hp)
 |map b=>exact h b hp
theorem pA {w':World}: ∀{ts:List TypeId} {vs:List Value} {ds:List (DataW H)} {ps:List MemPlace},DataW.TrodAll enc P w base sp held ts vs ds ps→(∀p∈ps,w.sameAt w' p)→DataW.TrodAll enc P w' base sp held ts vs ds ps
 |[],_,_,_,h,_=>by
  obtain⟨rfl,rfl,rfl⟩:=ChangeShapes.trodAll_nil h;exact ChangeShapes.trodAll_mk0
 |t::ts,_,_,_,h,hs=>by
  obtain⟨v,vs1,d,ds1,a,b,rfl,rfl,rfl,⟨n,h1⟩,h2⟩:=ChangeShapes.trodAll_cons h;exact⟨a,b,⟨n,DataW.trod_carry n t _ _ h1 (fun p hp=>hs p (List.mem_append_left _ hp))⟩,pA h2 (fun p hp=>hs p (List.mem_append_right _ hp)),rfl⟩
theorem aS0 {w w':World}(h1:w'.os=w.os)(h2:w'.output=w.output)(h: ∀b,b<w.heap.size→w'.heap[b]? =w.heap[b]?)(may:MemPlace→Prop):w.keptBut w' may:=by
 refine⟨h1,h2,fun i hi=>?_⟩;grind
end
end Go.Hl
namespace Go.Hl
open Go Go.RowKit Go.Sort Go.Proofs
end Go.Hl
namespace Go.Hl
open Go Go.RowKit
end Go.Hl
namespace Go.Hl
open Go Go.RowKit Go.Sort
abbrev kS :=List (Nat×List Value)
def eT (T:kS):Ob:=fob [(0,.tab T)]
def lX (P:Program)(f:FuncId)(T:kS)(args:List CV)(R:CV→Prop):Prop:=
 HFn P f (args.map .c) 1 (eT T) (fun r ob'=> ∃v,r= .c v∧ob'=eT T∧R v)
def aX7 (P:Program)(f:FuncId)(T:kS)(args:List CV)(R:CV→CV→Prop):Prop:=
 HFn P f (args.map .c) 1 (eT T) (fun r ob'=> ∃u v,r= .tup [.c u,.c v]∧ob'=eT T∧R u v)
theorem fY (T:kS)(j:Nat):eT T j=if j=0 then some (.tab T)else none:=by
 simp only[eT,fob_at,fob_nil]
theorem fP (T:kS)(args:List CV):LocOk 1 (args.map .c) (eT T):=by
 refine⟨fun j h=>?_,fun id o h=>?_,HV.menL_c⟩
 ·
  have:j=0:=by omega
  subst this;exact⟨_,rfl⟩
 grind[fY,HO.men]
variable {T:kS}{ob:Ob}
theorem aS1 {cl:List Nat}(hb:ob 0=some (.tab T))(h0:0∉cl)(j:Nat)(o:HO)(ho:eT T j=some o):
  j<1+4∧o.men (· <1+4)∧id j∉cl∧ ∃o0,ob (id j)=some o0∧(match o0 with| .box t v=>HO.box t (v.close ob cl).norm| .row e sz l=> .row e sz l| .mp e sz D=> .mp e sz D| .dead=> .dead| .tab T=> .tab T| .hrow e sz l=> .hrow e sz (HV.closeL ob cl l))=o.ren id:=by
 rw[fY]at ho;split at ho
 ·
  subst_vars
  cases ho;exact⟨by omega,by simp[HO.men],h0,_,hb,rfl⟩
 grind
variable {r:HV}
theorem dS {R:CV→Prop}(cl:List Nat)(v:CV)(h:(r.close ob cl).norm= .c v)(hb:ob 0=some (.tab T))(h0:0∉cl)(hR:R v):
  mK 1 r ob (fun r ob'=> ∃v,r= .c v∧ob'=eT T∧R v):=
 ⟨cl,id,.c v,eT T,⟨v,rfl,rfl,hR⟩,by rw[h];rfl,fun _ _=>rfl,fun _ _ _ _ h=>h,by simp[HV.men],aS1 hb h0⟩
variable {R:CV→CV→Prop}
theorem tR (cl:List Nat)(u v:CV)(h:(r.close ob cl).norm= .tup [.c u,.c v])(hb:ob 0=some (.tab T))(h0:0∉cl)(hR:R u v):
  mK 1 r ob (fun r ob'=> ∃u v,r= .tup [.c u,.c v]∧ob'=eT T∧R u v):=
 ⟨cl,id,.tup [.c u,.c v],eT T,⟨u,v,rfl,rfl,hR⟩,by grind[HV.ren,HV.renL],fun _ _=>rfl,fun _ _ _ _ h=>h,by simp[HV.men,HV.menL],aS1 hb h0⟩
variable {nid:Nat}
theorem nK {id:Nat}(hid:ob id=some (.tab T))(hfree:ob nid=none∧ob (nid+1)=none∧ob (nid+2)=none∧ob (nid+3)=none):bY ob [id] nid (eT T)=ob:=by
 funext i;by_cases e:i=id
 · subst e;simp only[bY,List.findIdx?_cons,beq_self_eq_true,if_true,fY,Option.map_some,hid];rfl
 ·
  have e':(id==i)=false:=by simp;exact fun h=>e h.symm
  simp only[bY,List.findIdx?_cons,e',List.findIdx?_nil,Option.map_none];simp only[Bool.false_eq_true,if_false];split
  ·
   rename_i hr;have h1:[id].length+(i-nid)≠0:=by simp
   rw[fY,if_neg h1];grind
  · rfl
theorem sJ {id:Nat}(hid:ob id=some (.tab T)): ∀j o,eT T j=some o→ob ([id].getD j 0)=some (o.ren (sub [id] nid)):=by grind[fY,HO.ren]
variable {args:List CV}{K:HV→Ob→Prop}{f:FuncId}{av:List Nat}{P:Program}
theorem eR {R:CV→Prop}(id:Nat)(h:lX P f T args R)(hid:ob id=some (.tab T))(hav:id∉av)
  (hfree:ob nid=none∧ob (nid+1)=none∧ob (nid+2)=none∧ob (nid+3)=none) (hK: ∀v,R v→K (.c v) ob):HCall P av f (args.map .c) ob nid K:=by
 refine⟨[id],args.map .c,_,_,h,fP T args,⟨by simp,by grind⟩,(HV.renL_c _ _).symm,sJ hid,fun r lob' hR _=>?_⟩;obtain⟨v,rfl,rfl,hR⟩:=hR;rw[nK hid hfree];exact hK v hR
theorem nL (id:Nat)(h:aX7 P f T args R)(hid:ob id=some (.tab T))(hav:id∉av)
  (hfree:ob nid=none∧ob (nid+1)=none∧ob (nid+2)=none∧ob (nid+3)=none) (hK: ∀u v,R u v→K (.tup [.c u,.c v]) ob):HCall P av f (args.map .c) ob nid K:=by
 refine⟨[id],args.map .c,_,_,h,fP T args,⟨by simp,by grind⟩,(HV.renL_c _ _).symm,sJ hid,fun r lob' hR _=>?_⟩;obtain⟨u,v,rfl,rfl,hR⟩:=hR;rw[nK hid hfree];exact hK u v hR
theorem aS2 {g:Nat}{name:String}{k:IntKind}{zs:List Int}(hok:eQ P f=true)(hg:P.globalNamed name=some g)(hT:(g,zs.map fun z=>Value.int k z)∈T){a b:Int}{s:List UInt8}
  (hc: ∀w:World,Lib.TabIs P w name k zs→Calls P f #[.int .i64 a,.int .i64 b] w fun e w'=>e= .returned (.string ⟨s.toArray⟩)∧ ∃n os,w'=grow (w.drewN n) os):
  lX P f T [.int .i64 a,.int .i64 b] (fun v=>v= .str s):=by
 refine⟨aW0 hok,fun w ρ X xs hS hA hX=>Does.of hok ?_⟩;have h0:=hS.objs 0 _ (rfl:eT T 0=some (.tab T));have htab:Lib.TabIs P w name k zs:=by
  obtain⟨-,h1⟩:=h0;obtain⟨⟨t,fz,h2⟩,-⟩:=h1 _ hT;simp only[Lib.TabIs,World.var?,hg,Option.bind_some,h2]
 simp only[List.map_cons,List.map_nil,bK,RepHV]at hA;obtain⟨x,zs',rfl,hx,y,zs'',rfl,hy,rfl⟩:=hA;have h1:=RepV.single hx rfl;have h2:=RepV.single hy rfl;simp only[RepC,List.cons.injEq,and_true]at h1 h2;subst h1 h2;refine(hc w htab).mono ?_;rintro ex w' ⟨rfl,n,os,rfl⟩;have hs2:Stay2 w (Own ρ) (grow (w.drewN n) os) (Own ρ):=⟨fun c hc' _=>by grind[grow,World.drewN,Array.getElem?_append_left],fun _ h=> .inl h,by simp_all,rfl,rfl,rfl⟩;have hst:=hs2.stay X;refine⟨_,_,ρ,_,rfl,⟨_,rfl,rfl,rfl⟩,⟨?_,⟨fun i o ho=>?_,hS.none,hS.apart,hS.xb⟩,by simp[HV.men],fun i o ho=>?_,hs2,Moves.refl _ _⟩⟩
 · refine cW ?_ rfl rfl;simp[RepC]
 ·
  rw[fY]at ho;split at ho
  ·
   subst_vars
   cases ho;exact⟨h0.1,kX hst h0.2⟩
  · cases ho
 grind[fY,HO.men]
end Go.Hl
namespace Go.Hl
open Go Go.RowKit
section
variable {P:Program}{T:TypeId→Prop}{H:Type}{enc:TypeId×Value→H}
theorem bD4 {W:World}{args:Array Value}{f:FuncId}{fn:Func}{s:ChangeSpec}{mm:Nat}{tb:TypeId}{tabs:kS}(hok:eQ P f=true)(K:Kids P T)(hz: ∀t e,T t→P.underlying t=some (.slice e)→0<P.cellsOf e)(hvars:s.vars=[])(hres:fn.resultTypes= #[tb])(htb:P.underlying tb=some .bool)
  (hspec: ∀(H:Type) (ds:List (DataW H)),ds.length=fn.params.toList.length→(s.fn H ds).results=[.lit (.bool true)]∧(s.fn H ds).args=ds∧(s.fn H ds).vars=[]) (hpl: ∀t∈fn.params.toList,lV P mm t=true∧T t)
  (hlaw: ∀cs:List CV,cs.length=fn.params.toList.length→(∀(j:Nat) t c,fn.params.toList[j]? =some t→cs[j]? =some c→HasTy P t c)→RepHV W (fun _=>none) (Owned (fun _=>none) (fun _=>False)) (cs.map .c) args.toList→lX P f tabs cs (fun v=>v= .bool true))
  (htab: ∀x∈tabs,∃t fz,W.heap[x.1]? =some (.cells x.2.toArray t fz)) {ds gs:List (DataW H)} {before:List MemPlace} (hval: ∀(j:Nat) t v,fn.params[j]? =some t→args[j]? =some v→Value.okWide P W .any 0 t v)
  (hW:DataW.Whole enc P fn.params.toList s.vars false W args.toList ds gs before):
  Calls P f args W fun e W'=> ∃v,e= .returned v∧s.post enc P fn false true false false W args v W':=by
 have hW':=hW;obtain⟨p,q,hA,hV,rfl,hfz,hnd⟩:=hW;rw[hvars]at hV;obtain⟨rfl,rfl⟩:=ChangeShapes.trodVars_none hV;simp only[List.append_nil]at hW' hfz;obtain⟨cs,r1,r2,r3,r4⟩:=qN (m:=mm) K hA hpl (fun j t v h1 h2=>hval j t v (by grind) (by grind));obtain⟨_,hrun⟩:=hlaw cs r2 r4 r1;have hS:RepS W (fun _=>none) (fun _=>False) (eT tabs):=by
  refine⟨fun i o h=>?_,fun _ _=>rfl,fun _ _ _ _ _ h=>(by grind),fun _ _ _ h=>(by grind)⟩;rw[fY]at h;split at h
  ·
   cases h;refine⟨rfl,fun x hx=>⟨htab x hx,?_⟩⟩;rintro(h1|⟨i,L,h1,_⟩)
   · exact h1
   · cases h1
  · cases h
 have hcall:=hrun W (fun _=>none) (fun _=>False) args.toList hS r1 (fun _ h=>h.elim);rw[Array.toArray_toList]at hcall;refine(hcall.calls hok).mono ?_;rintro e W' ⟨r,ob',ρ',x,rfl,⟨v,rfl,rfl,rfl⟩,hg⟩;obtain⟨hr1,hr2⟩:=hg.v;have hx:x= .bool true:=by
  have hag:Value.isAgg' x=false:=by rw[←hr2];rfl
  rw[cells_single hag]at hr1;simpa[RepH,RepC]using hr1
 subst hx;have hheap: ∀b,b<W.heap.size→W'.heap[b]? =W.heap[b]? :=fun b hb=>hg.stay.block b hb (aK6 b);obtain⟨s1,s2,s3⟩:=hspec H (ds++[]) (by simpa using r3);have hlt: ∀a∈p,a.block<W.heap.size:=hA.lt;have args': ∀sp:Nat→Bool,(∀a∈p,sp a.block=true)→DataW.TrodAll enc P W' 0 sp true fn.params.toList args.toList ds p:=fun sp hsp=>
  pA (hA.respare K hz (fun t ht=>(hpl t ht).2) hsp) (fun a ha=>bD3 hheap (hlt a ha))
 have hrl:Value.resultList fn.resultTypes.size (.bool true)=[.bool true]:=by rw[hres];rfl
 have hresT: ∀(b:Nat) (sp:Nat→Bool) (hd:Bool),DataW.TrodAll enc P W' b sp hd fn.resultTypes.toList (Value.resultList fn.resultTypes.size (.bool true)) [.lit (.bool true)] []:=fun b sp hd=>by
  rw[hrl,hres];exact trodAll_cons_mk (RowKit.shut_bool htb true) ChangeShapes.trodAll_mk0
 refine⟨.bool true,rfl,ds,[],p,[],p,[],by simpa using hW',?_,?_,?_,?_,?_⟩
 · rw[s1];exact hresT _ _ _
 · rw[s2];simpa using args' _ (fun a ha=>by simpa using hlt a ha)
 · rw[s3,hvars];rfl
 · exact aS0 hg.stay.os hg.stay.output hheap _
 · intro h;cases h
theorem bD5 {f:FuncId}{fn:Func}{s:ChangeSpec}{mm:Nat}{tb:TypeId}{tabs:kS}(hok:eQ P f=true)(K:Kids P T)(hz: ∀t e,T t→P.underlying t=some (.slice e)→0<P.cellsOf e)(hvars:s.vars=[])(hres:fn.resultTypes= #[tb])(htb:P.underlying tb=some .bool)
  (hspec: ∀(H:Type) (ds:List (DataW H)),ds.length=fn.params.toList.length→(s.fn H ds).results=[.lit (.bool true)]∧(s.fn H ds).args=ds∧(s.fn H ds).vars=[]) (hpl: ∀t∈fn.params.toList,lV P mm t=true∧T t)
  (hlaw: ∀cs:List CV,cs.length=fn.params.toList.length→(∀(j:Nat) t c,fn.params.toList[j]? =some t→cs[j]? =some c→HasTy P t c)→lX P f tabs cs (fun v=>v= .bool true))
  {W:World} (htab: ∀x∈tabs,∃t fz,W.heap[x.1]? =some (.cells x.2.toArray t fz)) {args:Array Value} {ds gs:List (DataW H)} {before:List MemPlace} (hval: ∀(j:Nat) t v,fn.params[j]? =some t→args[j]? =some v→Value.okWide P W .any 0 t v)
  (hW:DataW.Whole enc P fn.params.toList s.vars false W args.toList ds gs before):
  Calls P f args W fun e W'=> ∃v,e= .returned v∧s.post enc P fn false true false false W args v W':=
 bD4 hok K hz hvars hres htb hspec hpl (fun cs h1 h2 _=>hlaw cs h1 h2) htab hval hW
end
theorem xV {P:Program}{W:World}{name:String}{k:IntKind}{zs:List Int}{g:Nat}(hg:P.globalNamed name=some g)(h:Lib.TabIs P W name k zs): ∃t fz,W.heap[g]? =some (.cells (zs.map fun z=>Value.int k z).toArray t fz):=by grind[Lib.TabIs,World.var?]
end Go.Hl
