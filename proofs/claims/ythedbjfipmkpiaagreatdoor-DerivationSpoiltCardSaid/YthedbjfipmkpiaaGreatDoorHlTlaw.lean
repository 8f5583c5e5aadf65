/- HL: a law dC3 laid tables: the glue to a row's statement. By an AI agent. -/
import Derived.ProofKit
import Derived.OpenShut
import Derived.ReadAgain
import Derived.ChangeBears
import Derived.Sort.Grow
import Derived.Sort.EncStr
import Derived.Lib.LaidTab
import Derived.Deep.Draws
import Derived.LaidSub
import Derived.Test.YthedbjfipmkpiaaGreatDoorHlZb
set_option maxRecDepth 10000
set_option linter.unusedSimpArgs false
set_option linter.unusedVariables false
set_option linter.defProp false
namespace Go.Hl
open Go
def dD9 (P:Program)(f:FuncId)(e:TypeId)(sz:Nat)(l:List CV)(rest:List HV)(R:List CV→Prop):Prop:=
 HFn P f (.own 0 l.length::rest) 1 (fob [(0,.row e sz l)]) (fun r ob'=> ∃l',r= .own 1 l'.length∧ob'=fob [(1,.row e sz l')]∧R l')
def dE0 (e:TypeId)(sz:Nat)(R:List CV→Prop)(r:HV)(ob':Ob):Prop:=
 ∃(l':List CV) (m:Nat),(r= .osl 0 l'.length 0 sz m∧0<l'.length∨r= .own 0 l'.length∧m=l'.length)∧m≤l'.length∧ob'=fob [(0,.row e sz l')]∧R (l'.take m)
variable {n sz:Nat}{e:TypeId}{ob:Ob}
theorem cF5 {R:List CV→Prop}{m:Nat}(I:List CV)(h:ob 0=some (.row e sz I))(hn:n=I.length)(U:0<I.length)(hm:m≤I.length)(hR:R (I.take m)):gR 1 (.osl 0 n 0 sz m) ob (dE0 e sz R):=by
 subst hn;refine⟨[],id,.osl 0 I.length 0 sz m,fob [(0,.row e sz I)],⟨I,m,.inl ⟨rfl,U⟩,hm,rfl,hR⟩,by simp only[HV.close,CQ,G9,L8,HV.norm,HV.toC,HV.ren,id],fun _ _=>rfl,fun _ _ _ _ h=>h,by simp[HV.men],fun j o J=>?_⟩;simp only[fob_at,fob_nil]at J;split at J
 · rename_i e0;subst e0;cases J;exact⟨by omega,trivial,by simp,.row e sz I,h,rfl⟩
 grind
theorem uM {R:List CV→Prop}(I:List CV)(h:ob 0=some (.row e sz I))(hn:n=I.length)(hR:R I):gR 1 (.own 0 n) ob (dE0 e sz R):=by
 subst hn;refine⟨[],id,.own 0 I.length,fob [(0,.row e sz I)],⟨I,I.length,.inr ⟨rfl,rfl⟩,E3 _,rfl,by grind⟩,by simp only[HV.close,List.contains_nil,Bool.false_eq_true,if_false,HV.norm,HV.toC,HV.ren,id],fun _ _=>rfl,fun _ _ _ _ h=>h,by simp[HV.men],fun j o J=>?_⟩;simp only[fob_at,fob_nil]at J;split at J
 · rename_i U;subst U;cases J;exact⟨by omega,trivial,by simp,.row e sz I,h,rfl⟩
 grind
variable {rest:List HV}{f:FuncId}{P:Program}
theorem cT0 {l:List CV}{R:List CV→Prop}
  (h:HFn P f (.own 0 l.length::rest) 1 (fob [(0,.row e sz l)]) (dE0 e sz R)):dD9 P f e sz l rest R:=by
 refine⟨h.1,fun w ρ X xs hS hA hX=>(h.2 w ρ X xs hS hA hX).mono ?_⟩;rintro ex w' ⟨r,ob',ρ',x,rfl,⟨l',m,hr,hm,rfl,hR⟩,hg⟩;obtain⟨h0,ys,hρ,hL,ak,how⟩:=hg.s.objs 0 (.row e sz l') rfl;have hh:hlen h0=l'.length:=ownsRow_size how;have hx:(x=h0∧m=l'.length)∨ ∃g cap,h0= .slice (some ⟨g,0,none⟩) l'.length cap∧x= .slice (some ⟨g,0,none⟩) m cap:=by
  have hv:=hg.v;rcases hr with⟨rfl,aw⟩|⟨rfl,rfl⟩
  ·
   right;rcases how.2 with⟨_,hz⟩|⟨g,cap,cur,rfl,_,ai,ah,_⟩
   · omega
   ·
    obtain⟨I,ad⟩:=hv;have ae:Value.isAgg' x=false:=by rw[←ad];rfl
    rw[cells_single ae]at I;simp only[RepH,F8,J9]at I;obtain⟨y,rfl,_,hy,_⟩:=I;have:=(hy _ hρ).2 hh g cap rfl;refine⟨g,cap,rfl,?_⟩;rw[this];simp
  ·
   left;obtain⟨I,ad⟩:=hv;have ae:Value.isAgg' x=false:=by rw[←ad];rfl
   rw[cells_single ae]at I;simp only[RepH,F8,J9]at I;obtain⟨y,rfl,_,hy⟩:=I;exact⟨(hy _ hρ).2 hh,rfl⟩
 have aj:(l'.take m).length=m:=by simp;omega
 have hrow:w'.ownsRow 0 e sz x (l'.take m).length (ys.take (m*sz)):=by
  rw[aj];rcases hx with⟨rfl,rfl⟩|⟨g,cap,rfl,rfl⟩
  · rw[C8 (by rw[how.1];grind)];exact how
  ·
   refine⟨by rw[E1,how.1];simp_all,?_⟩;rcases how.2 with⟨hn,_⟩|⟨g',ab,cur,he,hb,ai,ah,hmax,an,ar⟩
   · cases hn
   · cases he;exact .inr ⟨g,cap,cur,rfl,hb,ai,by omega,hmax,an,by rw[←ar,R1,M6 (I3 _ hm)]⟩
 have U: ∀b,(Loc.hdr x).has b→(Loc.hdr h0).has b:=fun b hb=>by
  rcases hx with⟨rfl,_⟩|⟨g,cap,rfl,rfl⟩
  · grind
  · exact hb
 have au:x.oneCell'=true:=by
  rcases hx with⟨rfl,_⟩|⟨g,cap,_,rfl⟩
  · rcases how.2 with⟨rfl,_⟩|⟨g',ab,cur,rfl,_⟩<;>rfl
  · rfl
 have af:Value.isAgg' x=false:=by
  rcases hx with⟨rfl,_⟩|⟨g,cap,_,rfl⟩
  · rcases how.2 with⟨rfl,_⟩|⟨g',ab,cur,rfl,_⟩<;>rfl
  · rfl
 have ax:hlen x=m:=by
  rcases hx with⟨rfl,rfl⟩|⟨g,cap,_,rfl⟩
  · exact hh
  · rfl
 let ρn:Env:=fun i=>if i=1 then some (.hdr x)else none
 have J: ∀i L,ρn i=some L→i=1∧L= .hdr x:=fun i L hi=>by grind
 have aa: ∀b,Own ρn b→Own ρ' b:=fun b ⟨i,L,h1,h2⟩=>by
  obtain⟨rfl,rfl⟩:=J i L h1;exact⟨0,_,hρ,U b h2⟩
 have aq:Stay w' (Owned ρ' X) w' (Owned ρn X):=Stay.same (fun b _ hb=>hb.imp (fun x=>x) (aa b));have ag: ∀v∈l'.take m,v.cells=sz:=fun v hv=>ak v (J3 hv);refine⟨.own 1 (l'.take m).length,fob [(1,.row e sz (l'.take m))],ρn,x,rfl,⟨l'.take m,rfl,rfl,hR⟩,?_,⟨fun i o ho=>?_,fun i hi=>?_,fun i j L L' b h1 h2 _ _=>?_,fun i L b h1 h2=>?_⟩,by simp[HV.men],fun i o ho=>?_,⟨hg.stay.block,fun b hb=>hg.stay.own b (aa b hb),hg.stay.size,hg.stay.os,hg.stay.tape,hg.stay.output⟩,fun i L hi hL=>?_⟩
 · refine⟨?_,by rw[af];rfl⟩;rw[cells_single af];simp only[RepH];refine⟨x,rfl,au,fun h ao=>?_⟩;have:=(J 1 _ ao).2;cases this;rw[aj];exact⟨by omega,fun _=>rfl⟩
 ·
  simp only[fob_at,fob_nil]at ho;split at ho
  · rename_i e0;subst e0;cases ho;exact⟨x,ys.take (m*sz),by grind,(gK m hL ak).stay aq,ag,hrow⟩
  · cases ho
 ·
  simp only[fob_at,fob_nil]at hi;simp only[ρn];split at hi
  · cases hi
  · rename_i h1;rw[A7 h1]
 · rw[(J i L h1).1,(J j L' h2).1]
 · obtain⟨rfl,rfl⟩:=J i L h1;exact hg.s.xb 0 _ b hρ (U b h2)
 ·
  simp only[fob_at,fob_nil]at ho;split at ho
  · rename_i e0;subst e0;cases ho;exact⟨by omega,trivial⟩
  · cases ho
 · have:=(J i L hL).1;omega
theorem aL6 {n:Nat}{l:List CV}(hm:HV.menL (· <0) rest):LocOk 1 (.own 0 n::rest) (fob [(0,.row e sz l)]):=by
 have:=aC2 e sz n l;refine⟨this.all,this.none,?_⟩;grind[HV.menL,HV.men,HV.menL_mono]
section
variable {P:Program}{av:List Nat}{f:FuncId}{ob:Ob}{nid id n:Nat}{K:HV→Ob→Prop}{T e:TypeId}{sz:Nat}{v:CV}{l:List CV}{rest:List HV}
theorem cF6 {R:List CV→Prop}(h:dD9 P f e sz l rest R)(hm:HV.menL (· <0) rest)(hr: ∀m,HV.renL m rest=rest)(hid:ob id=some (.row e sz l))(hn:n=l.length)(ab:id∉av)(I:Free4 ob nid)
  (hK: ∀J,R J→K (.own nid J.length) (upd (aB9 ob id) nid (some (.row e sz J)))):HCall P av f (.own id n::rest) ob nid K:=by
 have h0:sub [id] nid 0=id:=rfl;have h1:sub [id] nid 1=nid:=by simp[sub]
 subst hn;refine⟨[id],_,_,_,h,aL6 hm,⟨by simp,by grind⟩,by grind[HV.renL,HV.ren],fun j o hj=>?_,fun r aa hR _=>?_⟩
 · grind[fob_at,fob_nil,HO.ren]
 ·
  obtain⟨J,rfl,rfl,hR⟩:=hR;have e2:bY ob [id] nid (fob [(1,.row e sz J)])=upd (aB9 ob id) nid (some (.row e sz J)):=by
   funext i;by_cases e0:i=id
   ·
    subst e0;have ad:i≠nid:=by rintro rfl;rw[I.1]at hid;cases hid
    simp_all[bE,bY,K4,J5,G4,aB9,fob_at,fob_nil]
   ·
    have e':(id==i)=false:=by simp;exact fun h=>e0 h.symm
    simp only[bY,K4,e',Q5,P6];simp only[G9,L8];split
    ·
     rename_i hr;by_cases U:i=nid
     · grind[aR,fob_at,HO.ren]
     ·
      have h3:[id].length+(i-nid)≠1:=by simp;omega
      rw[fob_at,A7 h3,fob_nil,bE _ _ U];simp only[aB9,A7 e0];exact(I.all i hr.1 hr.2).symm
    ·
     rename_i hr;have U:i≠nid:=by omega
     simp_all[bE,aB9,A7]
  grind[HV.ren]
end
def cF7 (P:Program)(f:FuncId)(args:List CV)(R:CV→CV→CV→Prop):Prop:=
 HFn P f (args.map .c) 0 cZ (fun r ob'=> ∃u v x,r= .tup [.c u,.c v,.c x]∧R u v x∧ob'=cZ)
variable {r:HV}
theorem aC4 {R:CV→CV→CV→Prop}(cl:List Nat)(u v x:CV)(h:(r.close ob cl).norm= .tup [.c u,.c v,.c x])(I:R u v x):gR 0 r ob (fun r ob'=> ∃u v x,r= .tup [.c u,.c v,.c x]∧R u v x∧ob'=cZ):=
 ⟨cl,id,.tup [.c u,.c v,.c x],cZ,⟨u,v,x,rfl,I,rfl⟩,by rw[h];rfl,fun _ h=>by omega,fun _ _ _ _ h=>h,by simp[HV.men,HV.menL],fun j o h=>by simp[cZ]at h⟩
variable {K:HV→Ob→Prop}{nid:Nat}{av:List Nat}
theorem bJ0 {args:List CV}{R:CV→CV→CV→Prop}(h:cF7 P f args R)(I:Free4 ob nid)(U: ∀u v x,R u v x→K (.tup [.c u,.c v,.c x]) ob):
  HCall P av f (args.map .c) ob nid K:=by
 refine⟨[],args.map .c,cZ,_,h,lL args,⟨N3,by simp⟩,(HV.renL_c _ _).symm,fun j o h=>by simp[cZ]at h,fun r J hR _=>?_⟩;obtain⟨u,v,x,rfl,hv,rfl⟩:=hR;rw[pW I.all];exact U u v x hv
def lst (os:List HO):Ob:=fun j=>os[j]?
theorem aC5 (o:HO)(os:List HO)(j:Nat):lst (o::os) (j+1)=lst os j:=by simp[lst]
def HGe (P:Program)(f:FuncId)(args:List HV)(os:List HO)(R:HV→List HO→Prop):Prop:=
 HFn P f args os.length (lst os) (fun r ob'=> ∃os',ob'=lst os'∧(os.length≤os'.length∧os'.length≤os.length+4)∧R r os')
def iL (m:Nat→Nat):Ob→Nat→List HO→Ob
 |ob,_,[]=>ob
 |ob,j,o::os=>iL m (upd ob (m j) (some (o.ren m))) (j+1) os
theorem rC (m:Nat→Nat)(i:Nat): ∀(os:List HO) (ob:Ob) (j:Nat),(∀t,t<os.length→m (j+t)≠i)→iL m ob j os i=ob i
 |[],_,_,_=>rfl
 |o::os,ob,j,h=>by
  rw[iL,rC m i os _ (j+1) fun t I=>by have:=h (t+1) (by grind);grind];exact bE _ _ fun e=>h 0 (by simp) e.symm
theorem aZ4 (m:Nat→Nat){N:Nat}(inj: ∀a b,a<N→b<N→m a=m b→a=b): ∀(os:List HO) (ob:Ob) (j t:Nat) (I:t<os.length),j+os.length≤N→iL m ob j os (m (j+t))=some (os[t].ren m)
 |o::os,ob,j,0,I,hN=>by
  show iL m (upd ob (m j) (some (o.ren m))) (j+1) os (m j)=_;grind[rC,List.length_cons,aR]
 |o::os,ob,j,t+1,I,hN=>by
  have:=aZ4 m inj os (upd ob (m j) (some (o.ren m))) (j+1) t (by grind) (by grind);rw[iL,show j+(t+1)=j+1+t from by omega,this];rfl
variable {j:Nat}{σ:List Nat}
theorem bJ1 (h:j<σ.length):sub σ nid j=σ[j]:=by simp_all[sub,B1,B4,A9]
theorem bJ2 (h:σ.length≤j):sub σ nid j=nid+(j-σ.length):=by simp_all[sub,A7]
theorem cT1 (hn:σ.Nodup)(I: ∀s∈σ,s<nid∨nid+4≤s): ∀a b,a<σ.length+4→b<σ.length+4→sub σ nid a=sub σ nid b→a=b:=by grind[Nat.lt_or_ge,bJ1,List.getElem_inj,bJ2,List.getElem_mem]
variable {os:List HO}
theorem yO (hn:σ.Nodup)(ho: ∀s∈σ,s<nid∨nid+4≤s)(I:Free4 ob nid)(h1:σ.length≤os.length)(h2:os.length≤σ.length+4):
  bY ob σ nid (lst os)=iL (sub σ nid) ob 0 os:=by
 have inj:=cT1 hn ho;have hit: ∀t,(U:t<os.length)→iL (sub σ nid) ob 0 os (sub σ nid t)=some (os[t].ren (sub σ nid)):=fun t U=>by
  have:=aZ4 (sub σ nid) inj os ob 0 t U (by omega);grind
 funext i;unfold bY;split
 · grind[List.findIdx?_eq_some_iff_getElem,sub,bJ1,lst,List.getElem?_eq_getElem]
 ·
  rename_i hj;have aa:i∉σ:=fun h=>by grind
  split
  ·
   rename_i J;have hi:sub σ nid (σ.length+(i-nid))=i:=by rw[bJ2 (by omega)];omega
   by_cases ab:σ.length+(i-nid)<os.length
   · grind[lst,List.getElem?_eq_getElem]
   · rw[rC,lst,I5 (by omega),I.all i J.1 J.2];all_goals grind
  · rename_i J;rw[rC];intro t U e;rw[F0]at e;grind[Nat.lt_or_ge,bJ1,List.getElem_mem,bJ2]
def bO4 (ob:Ob)(m:Nat→Nat):List Nat→List HO→Prop
 |[],[]=>True
 |s::σ,o::os=>ob s=some (o.ren m)∧bO4 ob m σ os
 |_,_=>False
theorem wX {ob:Ob}{m:Nat→Nat}: ∀{σ:List Nat} {os:List HO},bO4 ob m σ os→σ.length=os.length∧ ∀j o,lst os j=some o→ob (σ.getD j 0)=some (o.ren m)
 |[],[],_=>⟨rfl,fun j o h=>by simp[lst]at h⟩
 |s::σ,o::os,h=>by
  obtain⟨J,U⟩:=wX h.2;refine⟨by grind,fun j o' I=>?_⟩;cases j with
  |zero=>cases I;exact h.1
  |succ j=>grind[aC5]
 |[],_::_,h=>h.elim
 |_::_,[],h=>h.elim
def cV (k:Nat):List HO→Prop
 |[]=>True
 |o::os=>o.men (· <k)∧cV k os
theorem aL7 {k:Nat}: ∀{os:List HO},cV k os→ ∀j o,lst os j=some o→o.men (· <k)
 |[],_,j,o,h=>by simp[lst]at h
 |o::os,h,0,o',hj=>by cases hj;exact h.1
 |o::os,h,j+1,o',hj=>by rw[aC5]at hj;exact aL7 h.2 j o' hj
theorem bJ3 {o:HO}(h:lst os j=some o):j<os.length:=(H3.1 h).1
variable {k:Nat}{args:List HV}
theorem dQ (hk:k=os.length)(I:cV k os)(J:HV.menL (· <k) args):LocOk k args (lst os):=by
 subst hk;exact⟨fun j U=>⟨os[j],by rw[lst,A9 U]⟩,fun id o h=>⟨bJ3 h,aL7 I id o h⟩,J⟩
variable {R:HV→List HO→Prop}{I:List HV}
theorem dR (σ:List Nat)(h:HGe P f I os R)(ha:args=HV.renL (sub σ nid) I)
  (ad:bO4 ob (sub σ nid) σ os) (hn:σ.Nodup) (ab: ∀s∈σ,s∉av) (J:Free4 ob nid) (hm:cV os.length os) (aa:HV.menL (· <os.length) I)
  (hK: ∀r U,R r U→K (r.ren (sub σ nid)) (iL (sub σ nid) ob 0 U)):HCall P av f args ob nid K:=by
 obtain⟨hl,hg⟩:=wX ad;have ho: ∀s∈σ,s<nid∨nid+4≤s:=fun s hs=>by
  obtain⟨j,hj,rfl⟩:=L5 hs;have h1:=hg j os[j] (by rw[lst,A9]);rw[B4,A9 hj]at h1;rcases H4 σ[j] nid with h2|h2
  · grind
  ·
   rcases H4 σ[j] (nid+4)with h3|h3
   · rw[E9,J.all _ h2 h3]at h1;grind
   grind
 unfold HGe at h;rw[←hl]at h hm aa;refine⟨σ,I,lst os,_,h,dQ hl hm aa,⟨hn,ab⟩,ha,hg,fun r ae hR _=>?_⟩;obtain⟨U,rfl,⟨h1,h2⟩,hR⟩:=hR;grind[yO]
def tau (k:Nat)(new:List Nat)(j:Nat):Nat:=if j<k then j else if j-k<new.length then new.getD (j-k) 0 else k+new.sum+4+j
theorem cF8 : ∀{l:List Nat} {x:Nat},x∈l→x≤l.sum
 |y::l,x,h=>by
  rcases E0.1 h with rfl|h
  · simp
  · have:=cF8 h;grind
theorem cT2 {new:List Nat}(hn:new.Nodup)(hk: ∀s∈new,k≤s): ∀i j,tau k new i=tau k new j→i=j:=by
 have key: ∀j,j-k<new.length→ ¬j<k→k≤tau k new j∧tau k new j≤new.sum:=fun j h1 h2=>by simp_all[tau,A7,B1,B4,A9,B5,cF8]
 have lo: ∀j,j<k→tau k new j=j:=fun j h=>by unfold tau;grind
 have hi: ∀j,¬j<k→ ¬j-k<new.length→tau k new j=k+new.sum+4+j:=fun j h1 h2=>by simp_all[tau,A7]
 intro i j h;by_cases U:i<k<;>by_cases J:j<k
 · rwa [lo i U,lo j J]at h
 · grind
 · grind
 ·
  by_cases i2:i-k<new.length<;>by_cases I:j-k<new.length
  · unfold tau at h;rw[A7 U,B1 i2,A7 J,B1 I,B4,A9 i2,B4,A9 I]at h;grind[List.getElem_inj]
  all_goals grind
def nU (ob:Ob)(cl:List Nat):HO→HO
 | .box t v=> .box t (v.close ob cl).norm
 | .row e sz l=> .row e sz l
 | .mp e sz D=> .mp e sz D
 | .dead=> .dead
 | .tab T=> .tab T
 | .hrow e sz l=> .hrow e sz (HV.closeL ob cl l)
 | .raw es k=> .raw es k
 | .it m s q l=> .it m s q l
def cF9 (ob:Ob)(cl:List Nat)(k:Nat)(τ:Nat→Nat):Nat→List HO→Prop
 |_,[]=>True
 |j,o::os=>(o.men (· <k+4)∧τ j∉cl∧ ∃o0,ob (τ j)=some o0∧nU ob cl o0=o.ren τ)∧cF9 ob cl k τ (j+1) os
theorem aL8 {ob:Ob}{cl:List Nat}{k:Nat}{τ:Nat→Nat}: ∀{os:List HO} {j:Nat},cF9 ob cl k τ j os→ ∀t o,lst os t=some o→o.men (· <k+4)∧τ (j+t)∉cl∧ ∃I,ob (τ (j+t))=some I∧nU ob cl I=o.ren τ
 |[],_,_,t,o,h=>by simp[lst]at h
 |o::os,j,h,0,o',ht=>by cases ht;exact h.1
 |o::os,j,h,t+1,o',ht=>by
  rw[aC5]at ht;have:=aL8 h.2 t o' ht;grind
theorem eM (cl new:List Nat)(J:HV)(I:List HO)(hr:(r.close ob cl).norm=J.ren (tau k new))(hm:J.men (· <k+4))(ho:cF9 ob cl k (tau k new) 0 I)(hl:I.length=k+new.length)
  (hn:new.Nodup) (hk: ∀s∈new,k≤s) (aa:new.length≤4) (hR:R J I):gR k r ob (fun r ob'=> ∃I,ob'=lst I∧(k≤I.length∧I.length≤k+4)∧R r I):=by
 refine⟨cl,tau k new,J,lst I,⟨I,rfl,by omega,hR⟩,hr,fun j U=>by unfold tau;grind,fun i j _ _ h=>cT2 hn hk i j h,hm,fun j o U=>?_⟩;obtain⟨h1,h2,o0,h3,h4⟩:=aL8 ho j o U;rw[F0]at h2 h3;refine⟨by have:=bJ3 U;omega,h1,h2,o0,h3,?_⟩;rw[←h4];cases o0<;>rfl
theorem aZ5 (σ:List Nat)(h:HGe P f I os R)(ha:args=HV.renL (sub σ nid) I)
  (ae:bO4 ob (sub σ nid) σ os) (hn:σ.Nodup) (ad: ∀j,j<σ.length→σ.getD j 0∉av∨(σ.getD j 0+10000≤nid∧ ∀r J,R r J→J[j]? =os[j]?)) (U:Free4 ob nid) (hm:cV os.length os) (ab:HV.menL (· <os.length) I)
  (hK: ∀r J,R r J→K (r.ren (sub σ nid)) (iL (sub σ nid) ob 0 J)):HCallL P av f args ob nid K:=by
 obtain⟨hl,hg⟩:=wX ae;have ho: ∀s∈σ,s<nid∨nid+4≤s:=fun s hs=>by
  obtain⟨j,hj,rfl⟩:=L5 hs;have h1:=hg j os[j] (by rw[lst,A9]);rw[B4,A9 hj]at h1;rcases H4 σ[j] nid with h2|h2
  · grind
  ·
   rcases H4 σ[j] (nid+4)with h3|h3
   · rw[E9,U.all _ h2 h3]at h1;grind
   grind
 unfold HGe at h;rw[←hl]at h hm ab;refine⟨σ,I,lst os,_,h,dQ hl hm ab,⟨hn,fun j hj=>(ad j hj).imp (fun h=>h) fun h=>⟨h.1,fun r aa hR=>?_⟩⟩,ha,hg,fun r aa hR _=>?_⟩
 · obtain⟨J,rfl,_,hR⟩:=hR;exact h.2 r J hR
 · obtain⟨J,rfl,⟨h1,h2⟩,hR⟩:=hR;grind[yO]
end Go.Hl
namespace Go.Proofs.YthedbjfipmkpiaaGreatDoor
open Go Go.Hl Go.Pl
def sP :=(A2 (A2 (A2 (A2 (A2 @Go.Hl.hlift.eq_def @Go.Hl.hopI.eq_def) (A2 @Go.Hl.hstep.eq_def @Go.Hl.hop.eq_def)) (A2 (A2 @Go.Hl.hint.eq_def @Go.Hl.hstr.eq_def) (A2 @Go.Hl.hshift.eq_def @Go.Hl.hun.eq_def))) (A2 (A2 (A2 @Go.Hl.hconv.eq_def @Go.Hl.hpick.eq_def) (A2 @Go.Hl.hclo.eq_def @Go.Hl.hext.eq_def)) (A2 (A2 @Go.Hl.hmax.eq_def @Go.Hl.hslice.eq_def) (A2 @Go.Hl.hindex.eq_def @Go.Hl.hindexAddr.eq_def)))) (A2 (A2 (A2 (A2 @Go.Hl.hfieldAddr.eq_def @Go.Hl.hfield.eq_def) (A2 @Go.Hl.hload.eq_def @Go.Hl.hstore.eq_def)) (A2 (A2 @Go.Hl.happend.eq_def @Go.Hl.happend2.eq_def) (A2 @Go.Hl.hslice2.eq_def @Go.Hl.hclear.eq_def))) (A2 (A2 (A2 @Go.Hl.hmakeMap.eq_def @Go.Hl.hlookup.eq_def) (A2 @Go.Hl.hmapUpdate.eq_def @Go.Pl.hbuildDig.eq_def)) (A2 (A2 @Go.Hl.hcopy.eq_def @Go.Hl.hmkIface.eq_def) (A2 @Go.Hl.hassert.eq_def (A2 @Go.Hl.hmakeSlice.eq_def @Go.Hl.happends.eq_def))))))
def sA :=(A2 (A2 (A2 (A2 (A2 (A2 (A2 (A2 @Go.Hl.HV.toC.eq_1 @Go.Hl.HV.toC.eq_2) (A2 @Go.Hl.HV.toC.eq_3 (A2 @Go.Hl.HV.toCL.eq_1 @Go.Hl.HV.toCL.eq_2))) (A2 (A2 @Go.Hl.cells_mem_str @S7.{0}) (A2 @beq_true (A2 @beq_false @C4)))) (A2 (A2 (A2 @Go.Hl.denilL_str @Go.Hl.denilL_int) (A2 @Go.Hl.hwalk2.eq_1 (A2 @Go.Hl.hwalk2.eq_2 @Go.Hl.ids4.eq_1))) (A2 (A2 @Go.Hl.getF.eq_1 @Go.Hl.isEff.eq_1) (A2 @Go.Hl.isEff.eq_2 (A2 @Go.Hl.isEff.eq_3 @Go.Hl.isEff.eq_4))))) (A2 (A2 (A2 (A2 @E4 @J7.{0}) (A2 @Go.Hl.hlex.eq_1 (A2 @Go.Hl.hlex.eq_2 @Go.Hl.hguard.eq_1))) (A2 (A2 @Go.Hl.hcallOf.eq_1 @Go.Hl.hcallOf.eq_2) (A2 @Go.Hl.touch.eq_1 (A2 @Go.Hl.touch.eq_2 @Go.Hl.touch.eq_3)))) (A2 (A2 (A2 @Go.Hl.touch.eq_4 @Go.Hl.touch.eq_5) (A2 @Go.Hl.touch.eq_6 (A2 @Go.Hl.touch.eq_7 @Go.Hl.touch.eq_8))) (A2 (A2 @Go.Hl.touch.eq_9 @Go.Hl.touch.eq_10) (A2 @Go.Hl.HV.ids.eq_1 (A2 @Go.Hl.HV.ids.eq_2 @Go.Hl.HV.ids.eq_3)))))) (A2 (A2 (A2 (A2 (A2 @Go.Hl.HV.ids.eq_4 @Go.Hl.HV.ids.eq_5) (A2 @Go.Hl.HV.ids.eq_6 (A2 @Go.Hl.HV.ids.eq_7 @Go.Hl.ev.eq_1))) (A2 (A2 @Go.Hl.ev.eq_2 @Go.Hl.ev.eq_3) (A2 @Go.Hl.ev.eq_4 (A2 @Go.Hl.cvC.eq_1 @Go.Hl.cvC.eq_2)))) (A2 (A2 (A2 @Go.Hl.cvC1.eq_1 @Go.Hl.cvC1.eq_2) (A2 @Go.Hl.cvC1.eq_3 (A2 @Go.Hl.cvC1.eq_4 @Go.Hl.cvC1.eq_5))) (A2 (A2 @Go.Hl.cvC1.eq_6 @Go.Hl.cvC1.eq_7) (A2 @Go.Hl.cvC1.eq_8 (A2 @Go.Hl.cvC1.eq_9 @Go.Hl.updo_at))))) (A2 (A2 (A2 (A2 @Go.Hl.updo_none @Go.Hl.updo.eq_1) (A2 @Go.Hl.updo.eq_2 (A2 @Go.Hl.upd_at @Go.Hl.fin_at))) (A2 (A2 @Go.Hl.fin_nil @Go.Hl.finA_at) (A2 @Go.Hl.finA_nil (A2 @Go.Hl.fob_at @Go.Hl.fob_nil)))) (A2 (A2 (A2 @Go.Hl.none0_at @Go.Hl.hlift_some) (A2 @Go.Hl.hlift_none (A2 @Go.Hl.hthen.eq_1 @Go.Hl.hthen.eq_2))) (A2 (A2 @Go.Hl.hblk.eq_1 (A2 @Go.Hl.hblk.eq_2 @Go.Hl.hbin_int)) (A2 @Go.Hl.hbin_str (A2 @Go.Hl.hbin_bool @Go.Hl.isShift.eq_1))))))) (A2 (A2 (A2 (A2 (A2 (A2 @Go.Hl.isShift.eq_2 @Go.Hl.isShift.eq_3) (A2 @Go.Pl.hbuild_agg (A2 @Go.Hl.hfill.eq_1 @Go.Hl.hfill.eq_2))) (A2 (A2 @Go.Hl.HV.norm.eq_1 @V1.{0}) (A2 @N8.{0} (A2 @Go.Hl.hclosed.eq_1 @Go.Hl.hclosed.eq_2)))) (A2 (A2 (A2 @Go.Hl.hread.eq_1 @Go.Hl.hread.eq_2) (A2 @Go.Hl.hread.eq_3 (A2 @Go.Hl.hread.eq_4 @Go.Hl.hlo.eq_1))) (A2 (A2 @Go.Hl.hlo.eq_2 @Go.Hl.hlo.eq_3) (A2 @Go.Hl.live.eq_1 (A2 @Go.Hl.live.eq_2 @Go.Hl.live.eq_3))))) (A2 (A2 (A2 (A2 @Go.Hl.live.eq_4 @Go.Hl.live.eq_5) (A2 @Go.Hl.live.eq_6 (A2 @Go.Hl.HO.isBox.eq_1 @Go.Hl.HO.isBox.eq_2))) (A2 (A2 @Go.Hl.HO.isRow.eq_1 @Go.Hl.HO.isRow.eq_2) (A2 @Go.Hl.TyD.isAgg.eq_1 (A2 @Go.Hl.TyD.isAgg.eq_2 @Go.Hl.TyD.isAgg.eq_3)))) (A2 (A2 (A2 @Go.Hl.HV.sto.eq_1 @Go.Hl.HV.sto.eq_2) (A2 @Go.Hl.HV.sto.eq_3 (A2 @Go.Hl.HV.sto.eq_4 @Go.Hl.HV.stoL.eq_1))) (A2 (A2 @Go.Hl.HV.stoL.eq_2 @Go.Hl.HV.isAgg.eq_1) (A2 @Go.Hl.HV.isAgg.eq_2 (A2 @Go.Hl.HV.isAgg.eq_3 @Go.Hl.CV.isAgg.eq_1)))))) (A2 (A2 (A2 (A2 (A2 @Go.Hl.CV.isAgg.eq_2 @Go.Hl.HV.cells.eq_1) (A2 @Go.Hl.HV.cells.eq_2 (A2 @Go.Hl.HV.cells.eq_3 @Go.Hl.HV.cellsL.eq_1))) (A2 (A2 @Go.Hl.HV.cellsL.eq_2 @Go.Hl.CV.cells.eq_1) (A2 @Go.Hl.CV.cells.eq_2 (A2 @Go.Hl.CV.cellsL.eq_1 @Go.Hl.CV.cellsL.eq_2)))) (A2 (A2 (A2 @Go.Hl.HV.getAt.eq_1 @Go.Hl.HV.getAt.eq_2) (A2 @Go.Hl.HV.getAt.eq_3 (A2 @Go.Hl.HV.getAtL.eq_1 @Go.Hl.HV.getAtL.eq_2))) (A2 (A2 @Go.Hl.CV.getAt.eq_1 @Go.Hl.CV.getAt.eq_2) (A2 @Go.Hl.CV.getAtL.eq_1 (A2 @Go.Hl.CV.getAtL.eq_2 @Go.Hl.HV.setAt.eq_1))))) (A2 (A2 (A2 (A2 @Go.Hl.HV.setAt.eq_2 @Go.Hl.HV.setAt.eq_3) (A2 @Go.Hl.HV.setAtL.eq_1 (A2 @Go.Hl.HV.setAtL.eq_2 @Go.Hl.CV.setAt.eq_1))) (A2 (A2 @Go.Hl.CV.setAt.eq_2 @Go.Hl.CV.setAtL.eq_1) (A2 @Go.Hl.CV.setAtL.eq_2 (A2 @Go.Hl.HV.den.eq_1 @Go.Hl.HV.den.eq_2)))) (A2 (A2 (A2 @Go.Hl.CV.denil.eq_1 @Go.Hl.CV.denil.eq_2) (A2 @Go.Hl.CV.denil.eq_3 (A2 @Go.Hl.CV.denil.eq_4 @Go.Hl.CV.denilL.eq_1))) (A2 (A2 @Go.Hl.CV.denilL.eq_2 (A2 @List.range.eq_1 @List.range.loop.eq_1)) (A2 @List.range.loop.eq_2 (A2 @I8.{0} @A8.{0})))))))) (A2 (A2 (A2 (A2 (A2 (A2 (A2 @C0.{0} @A0.{0,0}) (A2 @P1.{0} (A2 @M1.{0} @M2.{0}))) (A2 (A2 @B8.{0,0} @F2.{0,0}) (A2 @G3.{0,0} (A2 @I9.{0,0} @BP.{0})))) (A2 (A2 (A2 @H7.{0} @E0.{0}) (A2 @J1.{0} (A2 @J4.{0} @false_implies))) (A2 (A2 @CP.{0} @CP.{1}) (A2 @Q9 (A2 @J9 @I4))))) (A2 (A2 (A2 (A2 @AD.{0} @AD.{1}) (A2 @CM (A2 @CR @BU))) (A2 (A2 @F0 @L4) (A2 @Nat.succ_ne_self (A2 @I2.{0,0} @P6.{0,0})))) (A2 (A2 (A2 @J0.{0,0} @V2.{0}) (A2 @G9 (A2 @Bool.true_eq_false @A6))) (A2 (A2 @forall_eq_or_imp.{0} @forall_eq_or_imp.{1}) (A2 @forall_eq.{0} (A2 @forall_eq.{1} @DS)))))) (A2 (A2 (A2 (A2 (A2 @CS @F1) (A2 @F7 (A2 @J5.{0} @CU.{0}))) (A2 (A2 @Go.Pl.hbuild_dig @Go.Pl.dg_cells) (A2 @Go.Pl.dg_isAgg (A2 @Go.Pl.dg_denil @Go.Pl.dg_getAt)))) (A2 (A2 (A2 @Go.Pl.dg_setAt @Go.Pl.denilL_dg) (A2 @Go.Pl.us_cells (A2 @Go.Hl.TyD.plain.eq_1 @Go.Hl.TyD.plain.eq_2))) (A2 (A2 @Go.Hl.TyD.plain.eq_3 @Go.Hl.TyD.plain.eq_4) (A2 @Go.Hl.TyD.plain.eq_5 (A2 @Go.Hl.bytesC_map @Go.Pl.Rq.cells))))) (A2 (A2 (A2 (A2 @Go.Pl.Rq.denil @Go.Pl.Rq.isAgg) (A2 @Go.Pl.Rq.getAll (A2 @Go.Pl.Rq.setAll @Go.Pl.Rq.fold))) (A2 (A2 @Go.Pl.denilL_Rq @Go.Pl.Rq.get_k) (A2 @Go.Pl.Rq.set_k (A2 @Go.Pl.Rq.get_n @Go.Pl.Rq.set_n)))) (A2 (A2 (A2 @Go.Pl.Rq.get_m @Go.Pl.Rq.set_m) (A2 @Go.Pl.Rq.get_t (A2 @Go.Pl.Rq.set_t @Go.Pl.Nd.cells))) (A2 (A2 @Go.Pl.Nd.denil (A2 @Go.Pl.Nd.isAgg @Go.Pl.Nd.getAll)) (A2 @Go.Pl.Nd.setAll (A2 @Go.Pl.Nd.fold @Go.Pl.denilL_Nd))))))) (A2 (A2 (A2 (A2 (A2 (A2 @Go.Pl.Nd.get_k @Go.Pl.Nd.set_k) (A2 @Go.Pl.Nd.get_n (A2 @Go.Pl.Nd.set_n @Go.Pl.Nd.get_c))) (A2 (A2 @Go.Pl.Nd.set_c @Go.Pl.Nd.get_q) (A2 @Go.Pl.Nd.set_q (A2 @Go.Pl.Sp.cells @Go.Pl.Sp.denil)))) (A2 (A2 (A2 @Go.Pl.denilL_Sp @Go.Pl.Sp.isAgg) (A2 @Go.Pl.Sp.getAll (A2 @Go.Pl.Sp.setAll @Go.Pl.Sp.fold))) (A2 (A2 @Go.Pl.Sp.get_h @Go.Pl.Sp.set_h) (A2 @Go.Pl.Sp.get_d (A2 @Go.Pl.Sp.set_d @Go.Pl.Sp.get_m))))) (A2 (A2 (A2 (A2 @Go.Pl.Sp.set_m @Go.Pl.Ln.cells) (A2 @Go.Pl.Ln.denil (A2 @Go.Pl.denilL_Ln @Go.Pl.Ln.isAgg))) (A2 (A2 @Go.Pl.Ln.getAll @Go.Pl.Ln.setAll) (A2 @Go.Pl.Ln.fold (A2 @Go.Pl.Ln.get_k @Go.Pl.Ln.set_k)))) (A2 (A2 (A2 @Go.Pl.Ln.get_n @Go.Pl.Ln.set_n) (A2 @Go.Pl.Ln.get_d (A2 @Go.Pl.Ln.set_d @Go.Pl.Ln.get_f))) (A2 (A2 @Go.Pl.Ln.set_f @Go.Pl.Og.cells) (A2 @Go.Pl.Og.denil (A2 @Go.Pl.denilL_Og @Go.Pl.Og.isAgg)))))) (A2 (A2 (A2 (A2 (A2 @Go.Pl.Og.getAll @Go.Pl.Og.setAll) (A2 @Go.Pl.Og.fold (A2 @Go.Pl.Og.get_v @Go.Pl.Og.set_v))) (A2 (A2 @Go.Pl.Og.get_l @Go.Pl.Og.set_l) (A2 @Go.Pl.Og.get_r (A2 @Go.Pl.Og.set_r @Go.Pl.Qs.cells)))) (A2 (A2 (A2 @Go.Pl.Qs.denil @Go.Pl.denilL_Qs) (A2 @Go.Pl.Qs.isAgg (A2 @Go.Pl.Qs.getAll @Go.Pl.Qs.setAll))) (A2 (A2 @Go.Pl.Qs.fold @Go.Pl.Qs.get_n) (A2 @Go.Pl.Qs.set_n (A2 @Go.Pl.Qs.get_i @Go.Pl.Qs.set_i))))) (A2 (A2 (A2 (A2 @Go.Pl.Qs.get_a @Go.Pl.Qs.set_a) (A2 @Go.Pl.Dv.cells (A2 @Go.Pl.Dv.denil @Go.Pl.denilL_Dv))) (A2 (A2 @Go.Pl.Dv.isAgg @Go.Pl.Dv.getAll) (A2 @Go.Pl.Dv.setAll (A2 @Go.Pl.Dv.fold @Go.Pl.Dv.get_q)))) (A2 (A2 (A2 @Go.Pl.Dv.set_q @Go.Pl.Dv.get_t) (A2 @Go.Pl.Dv.set_t (A2 @Go.Pl.Dv.get_p @Go.Pl.Dv.set_p))) (A2 (A2 @Go.Pl.Dv.get_r (A2 @Go.Pl.Dv.set_r @Go.Pl.Dv.get_o)) (A2 @Go.Pl.Dv.set_o (A2 @Go.Pl.Dv.get_l @Go.Pl.Dv.set_l)))))))))
def sE :=(A2 (A2 (A2 (A2 @Go.Hl.hlex.eq_1 @Go.Hl.hlex.eq_2) (A2 @Go.Hl.hwalk2.eq_1 @Go.Hl.hwalk2.eq_2)) (A2 (A2 @Go.Hl.hlexG.eq_1 @Go.Hl.hlexG.eq_2) (A2 @Go.Hl.hwalk2G.eq_1 @Go.Hl.hwalk2G.eq_2))) (A2 (A2 (A2 @Go.Hl.hthen.eq_1 @Go.Hl.hthen.eq_2) (A2 @Go.Hl.hblk.eq_1 @Go.Hl.hblk.eq_2)) (A2 (A2 @I8.{0} @A8.{0}) (A2 @C0.{0} @F0))))
def sR :=(A2 (A2 (A2 @List.range.eq_1 @List.range.loop.eq_1) (A2 @List.range.loop.eq_2 @I8.{0})) (A2 (A2 @A8.{0} @C0.{0}) (A2 @F0 @L4)))
def sH :=(A2 (A2 @Go.Hl.hop1.eq_1 (A2 @Go.Hl.hgd.eq_1 @Go.Hl.hgd.eq_2)) (A2 @List.getElem_toArray.{0} (A2 @O3.{0} @O2.{0})))
def sN :=(A2 (A2 (A2 @Go.Hl.hop1H.eq_1 @Go.Hl.hop1N.eq_1) (A2 @Go.Hl.hop1L.eq_1 (A2 @Go.Hl.hreadH.eq_def @Go.Hl.hreadA.eq_def))) (A2 (A2 @Go.Hl.hparts.eq_1 @Go.Hl.hparts.eq_2) (A2 @Go.Hl.HO.isH.eq_def (A2 @Go.Hl.nthH_zero @Go.Hl.nthH_succ))))
def tyS :=(A2 (A2 (A2 (A2 (A2 (A2 (A2 @ty1 (A2 @ty2 @ty3)) (A2 @ty4 (A2 @ty5 @ty6))) (A2 (A2 @ty7 (A2 @ty8 @ty9)) (A2 @ty10 (A2 @ty11 @ty12)))) (A2 (A2 (A2 @ty13 (A2 @ty14 @ty15)) (A2 @ty16 (A2 @ty17 @ty18))) (A2 (A2 @ty19 (A2 @ty20 @ty21)) (A2 (A2 @ty22 @ty23) (A2 @ty24 @ty25))))) (A2 (A2 (A2 (A2 @ty26 (A2 @ty27 @ty28)) (A2 @ty29 (A2 @ty30 @ty32))) (A2 (A2 @ty33 (A2 @ty34 @ty35)) (A2 (A2 @ty36 @ty37) (A2 @ty38 @ty39)))) (A2 (A2 (A2 @ty40 (A2 @ty41 @ty42)) (A2 @ty43 (A2 @ty44 @ty45))) (A2 (A2 @ty46 (A2 @ty47 @ty48)) (A2 (A2 @ty49 @ty50) (A2 @ty51 @ty52)))))) (A2 (A2 (A2 (A2 (A2 @ty53 (A2 @ty55 @ty56)) (A2 @ty57 (A2 @ty58 @ty60))) (A2 (A2 @ty61 (A2 @ty62 @ty63)) (A2 (A2 @ty64 @ty65) (A2 @ty66 @ty67)))) (A2 (A2 (A2 @ty69 (A2 @ty70 @ty71)) (A2 @ty72 (A2 @ty73 @ty74))) (A2 (A2 @ty75 (A2 @ty76 @ty77)) (A2 (A2 @ty78 @ty79) (A2 @ty80 @ty82))))) (A2 (A2 (A2 (A2 @ty83 (A2 @ty84 @ty85)) (A2 @ty86 (A2 @ty87 @ty88))) (A2 (A2 @ty89 (A2 @ty90 @ty91)) (A2 (A2 @ty92 @ty93) (A2 @ty95 @ty96)))) (A2 (A2 (A2 @ty97 (A2 @ty99 @ty100)) (A2 @ty101 (A2 @ty102 @ty103))) (A2 (A2 @ty104 (A2 @ty105 @ty106)) (A2 (A2 @ty107 @ty108) (A2 @ty109 @ty111))))))) (A2 (A2 (A2 (A2 (A2 (A2 @ty112 (A2 @ty113 @ty114)) (A2 @ty115 (A2 @ty117 @ty119))) (A2 (A2 @ty120 (A2 @ty121 @ty122)) (A2 @ty123 (A2 @ty124 @ty125)))) (A2 (A2 (A2 @ty126 (A2 @ty127 @ty128)) (A2 @ty129 (A2 @ty130 @ty131))) (A2 (A2 @ty132 (A2 @ty133 @ty134)) (A2 (A2 @ty135 @ty136) (A2 @ty137 @ty138))))) (A2 (A2 (A2 (A2 @ty140 (A2 @ty141 @ty142)) (A2 @ty143 (A2 @ty145 @ty146))) (A2 (A2 @ty148 (A2 @ty149 @ty150)) (A2 (A2 @ty151 @ty152) (A2 @ty153 @ty154)))) (A2 (A2 (A2 @ty155 (A2 @ty156 @ty157)) (A2 @ty158 (A2 @ty159 @ty160))) (A2 (A2 @ty161 (A2 @ty163 @ty164)) (A2 (A2 @ty165 @ty166) (A2 @ty167 @ty168)))))) (A2 (A2 (A2 (A2 (A2 @ty169 (A2 @ty170 @ty171)) (A2 @ty173 (A2 @ty174 @ty175))) (A2 (A2 @ty176 (A2 @ty177 @ty178)) (A2 (A2 @ty179 @ty180) (A2 @ty181 @ty183)))) (A2 (A2 (A2 @ty184 (A2 @ty185 @ty186)) (A2 @ty187 (A2 @ty188 @ty189))) (A2 (A2 @ty190 (A2 @ty192 @ty193)) (A2 (A2 @ty194 @ty195) (A2 @ty197 @ty198))))) (A2 (A2 (A2 (A2 @ty199 (A2 @ty200 @ty201)) (A2 @ty202 (A2 @ty204 @ty206))) (A2 (A2 @ty207 (A2 @ty209 @ty210)) (A2 (A2 @ty211 @ty212) (A2 @ty213 @ty214)))) (A2 (A2 (A2 @ty215 (A2 @ty219 @ty220)) (A2 @ty221 (A2 @ty222 @ty223))) (A2 (A2 @ty224 (A2 @ty225 @ty226)) (A2 (A2 @eqdg43 @nedg43) (A2 @eqdg44 @nedg44))))))))
theorem AI {p q:Prop}(h:q)(hp:p:=by first|omega|(simp only[maxLen];omega)|assumption|(simp[CV.cells];done)|(simp[CV.cells,maxLen];omega)):p∧q:=⟨hp,h⟩
section
variable {P:Program}{ops:Array Oper}{nx:Nat}{Q:Fr→Ob→Prop}{fr:Fr}{ob:Ob}{c:Bool}
theorem aH {l:List Nat}(d:Nat)(h:fr d= .c (.bool c))(I:c=true→hlex P ops nx Q l fr ob)(J:c=false→hlex P ops nx Q l fr ob):hlex P ops nx Q l fr ob:=by
  cases c
  · exact J rfl
  · exact I rfl
theorem kD {l:pX}{C:lT}(d:Nat)(h:fr d= .c (.bool c))(I:c=true→hwalk2 P ops nx Q l C fr ob)(J:c=false→hwalk2 P ops nx Q l C fr ob):hwalk2 P ops nx Q l C fr ob:=by
  cases c
  · exact J rfl
  · exact I rfl
end
end Go.Proofs.YthedbjfipmkpiaaGreatDoor
namespace Go.Hl
open Go
inductive HasTy (P:Program):TypeId→CV→Prop where
 |bool {t:TypeId} (hu:P.underlying t=some .bool) (b:Bool):HasTy P t (.bool b)
 |int {t:TypeId} {k:IntKind} (hu:P.underlying t=some (.int k)) {n:Int} (hw:(Lit.int k n).wf=true):HasTy P t (.int k n)
 |str {t:TypeId} (hu:P.underlying t=some .string) {s:List UInt8} (hs:s.length≤maxLen):HasTy P t (.str s)
 |slc {t e:TypeId} (hu:P.underlying t=some (.slice e)) {l:List CV} (hl: ∀x∈l,HasTy P e x) (hn:l.length≤maxLen):HasTy P t (.slc l)
 |arr {t e:TypeId} {m:Nat} (hu:P.underlying t=some (.array m e)) {l:List CV} (hl: ∀x∈l,HasTy P e x) (hn:l.length=m):HasTy P t (.agg l)
 |struct {t:TypeId} {fs:Array Field} (hu:P.underlying t=some (.struct fs)) {l:List CV} (hn:l.length=fs.size) (hl: ∀(i:Nat) (f:Field) (x:CV),fs.toList[i]? =some f→l[i]? =some x→HasTy P f.type x):HasTy P t (.agg l)
variable {c:CV}{t:TypeId}{P:Program}
theorem HasTy.of_int {k:IntKind}(hu:P.underlying t=some (.int k))(h:HasTy P t c): ∃n,c= .int k n∧(Lit.int k n).wf=true:=by
 cases h with
 |int h2 hw=>grind
 |bool h2|str h2|slc h2|arr h2|struct h2=>rw[hu]at h2;cases h2
theorem HasTy.of_str (hu:P.underlying t=some .string)(h:HasTy P t c): ∃s,c= .str s∧s.length≤maxLen:=by
 cases h with
 |str h2 hs=>grind
 |int h2|bool h2|slc h2|arr h2|struct h2=>rw[hu]at h2;cases h2
theorem HasTy.of_slc {e:TypeId}(hu:P.underlying t=some (.slice e))(h:HasTy P t c): ∃l,c= .slc l∧(∀x∈l,HasTy P e x)∧l.length≤maxLen:=by
 cases h with
 |slc h2 hl hn=>grind
 |int h2|bool h2|str h2|arr h2|struct h2=>rw[hu]at h2;cases h2
def oV (P:Program):Nat→TypeId→Bool
 |0,_=>false
 |n+1,t=>match P.underlying t with
  |some .bool|some (.int _)|some .string=>true
  |some (.slice e)=>oV P n e
  |some (.array _ e)=>oV P n e
  |some (.struct fs)=>fs.toList.all fun f=>oV P n f.type
  |_=>false
theorem oW {α:Type}{w:World}{O:Nat→Prop}{g:α→List Value}{R:α→CV→Prop}: ∀(l:List α),(∀a∈l,∃c,RepC w O c (g a)∧R a c)→
  ∃cl:List CV,RepL w O cl (l.flatMap g)∧cl.length=l.length∧ ∀(i:Nat) a c,l[i]? =some a→cl[i]? =some c→R a c
 |[],_=>⟨[],by simp[RepL],rfl,by simp⟩
 |a::l,h=>by
  obtain⟨c,h1,h2⟩:=h a (by simp);obtain⟨cl,h3,I,U⟩:=oW l (fun x hx=>h x (by grind));refine⟨c::cl,by simp only[G3,RepL];grind,by grind,fun i x y hx J=>?_⟩;grind
theorem aC6 {cw:Field→Nat}{cs:List Value}: ∀(fs:List Field) (k:Nat),(∀(j:Nat) f,fs[j]? =some f→f.offset=k+((fs.take j).map cw).sum)→
  fs.flatMap (fun f=>(cs.drop f.offset).take (cw f))=(cs.drop k).take ((fs.map cw).sum)
 |[],k,_=>by simp
 |f::fs,k,h=>by
  have I:=h 0 f rfl;simp only[P5,F2,CW,L4]at I;have J:=aC6 (cw:=cw) (cs:=cs) fs (k+cw f) (fun j g U=>by
   have:=h (j+1) g (by grind);grind)
  grind[List.drop_drop]
theorem aC7 {cs:List Value}(c:Nat): ∀(m:Nat),(List.range m).flatMap (fun i=>(cs.drop (i*c)).take c)=cs.take (m*c)
 |0=>by simp
 |m+1=>by
  rw[X9,O7,aC7 c m];simp_all[G3,I9,J7,List.take_add,AN]
theorem aC8 {w:World}{a:Addr}{c:Nat}{g:Nat→List Value}: ∀(m:Nat),(∀i,i<m→(g i).length=c∧ ∀r,r<c→w.cell? ((a.add (i*c)).add r)=(g i)[r]?)→
  ((List.range m).flatMap g).length=m*c∧ ∀j u,((List.range m).flatMap g)[j]? =some u→w.cell? (a.add j)=some u
 |0,_=>by simp
 |m+1,h=>by
  obtain⟨J,h2⟩:=aC8 m (fun i hi=>h i (by omega));obtain⟨I,U⟩:=h m (by omega);rw[X9,O7];simp only[G3,I9,J7];refine⟨by rw[A3,J,I,AN],fun j u hj=>?_⟩;grind[List.getElem?_append_left,List.getElem?_append_right,List.getElem?_eq_some_iff,Addr.add_add]
section
variable {H:Type}{enc:TypeId×Value→H}{P:Program}{T:TypeId→Prop}{w:World}{base:Nat}{sp:Nat→Bool}{held:Bool}
theorem uN (K:Kids P T): ∀(m:Nat) (t:TypeId),oV P m t=true→T t→ ∀(n:Nat) (cs:List Value) (x:DataW H×List MemPlace),DataW.trod enc P w base sp held n t cs=some x→
  ∃c,RepC w (fun _=>False) c cs∧HasTy P t c∧cs.length=cs.length
 |0,t,hp,_,_,_,_,_=>by simp[oV]at hp
 |m+1,t,hp,hT,0,cs,x,h=>by simp[DataW.trod]at h
 |m+1,t,hp,hT,n+1,cs,x,h=>by
  unfold oV at hp;split at hp
  ·
   rename_i hu;unfold DataW.trod at h;rw[hu]at h;split at h
   case h_1=>rename_i b U;exact⟨.bool b,by simp[RepC],.bool hu b,rfl⟩
   all_goals grind
  ·
   rename_i k hu;unfold DataW.trod at h;rw[hu]at h;split at h
   case h_2=>
    rename_i k' k2 n2 U;cases U;split at h
    · rename_i hc;obtain⟨rfl,hw⟩:=hc;exact⟨.int _ n2,by simp[RepC],.int hu hw,rfl⟩
    grind
   all_goals grind
  ·
   rename_i hu;unfold DataW.trod at h;rw[hu]at h;split at h
   case h_4=>
    rename_i s U;split at h
    · rename_i hc;refine⟨.str s.data.toList,by simp[RepC],.str hu ?_,rfl⟩;simp_all
    grind
   all_goals grind
  ·
   rename_i e hu;unfold DataW.trod at h;rw[hu]at h;split at h
   case h_7=>
    rename_i el U;exact⟨.slc [],by simp only[RepC];exact⟨none,0,[],0,rfl,by simp[RepL],by simp,by simp,fun _=>rfl,fun ad ag=>(by grind)⟩,.slc hu (by simp) (by simp),rfl⟩
   case h_8=>
    rename_i e' a len cap U;cases U;simp only at h;split at h
    ·
     rename_i hc;obtain⟨hb,aq,ar⟩:=hc;rw[AC]at h;obtain⟨elems,he,_⟩:=h;have ae: ∀i,i<len→ ∃cl,w.cells? base (a.add (i*P.cellsOf e)) (P.cellsOf e)=some cl∧ ∃y,DataW.trod enc P w base sp held n e cl=some y:=fun i hi=>by
      have:=BX he i i (by grind);grind[hlen,mapM_some_length,List.length_range,List.getElem?_eq_getElem,Option.bind_eq_some_iff]
     let g:Nat→List Value:=fun i=>(w.cells? base (a.add (i*P.cellsOf e)) (P.cellsOf e)).getD []
     have hg: ∀i,i<len→(g i).length=P.cellsOf e∧ ∀r,r<P.cellsOf e→w.cell? ((a.add (i*P.cellsOf e)).add r)=(g i)[r]? :=fun i hi=>by
      obtain⟨cl,h3,_⟩:=ae i hi;obtain⟨_,h4,h5⟩:=World.cells?_some h3;grind
     obtain⟨cl,hr,hlen,J⟩:=oW (w:=w) (O:=fun _=>False) (g:=g) (R:=fun i c=>HasTy P e c∧c.cells=P.cellsOf e) (List.range len) (fun i hi=>by
      have ah:=N5.1 hi;obtain⟨cl,h3,y,h4⟩:=ae i ah;have au:g i=cl:=by simp[g,h3]
      obtain⟨c,q1,q2,_⟩:=uN K m e hp (K.slice hT hu) n cl y h4;grind[bK,World.cells?_some])
     simp only[Z6]at hlen;have aa: ∀x∈cl,HasTy P e x∧x.cells=P.cellsOf e:=fun x hx=>by
      obtain⟨i,hi,rfl⟩:=L5 hx;exact J i i _ (Y1 (by omega)) (by rw[A9 hi])
     refine⟨.slc cl,?_,.slc hu (fun x hx=>(aa x hx).1) (by omega),rfl⟩;simp only[RepC];refine⟨some a,cap,_,P.cellsOf e,by rw[hlen],hr,fun v hv=>(aa v hv).2,by omega,fun hh=>(by grind),fun ad ag=>?_⟩;cases ag;exact⟨(aC8 len hg).2,fun _ h=>h⟩
    grind
   all_goals grind
  ·
   rename_i k e hu;unfold DataW.trod at h;rw[hu]at h;split at h
   case h_10=>
    rename_i ab _ _ k' e' U;cases U;split at h
    ·
     rename_i hc;rw[C9]at h;obtain⟨xs,I,_⟩:=h;obtain⟨aj,ak⟩:=K.array hT hu;obtain⟨cl,hr,hlen,J⟩:=oW (w:=w) (O:=fun _=>False) (g:=fun i=>(ab.drop (i*P.cellsOf e)).take (P.cellsOf e)) (R:=fun i c=>HasTy P e c) (List.range k) (fun i hi=>by
      have ah:=N5.1 hi;have:=BX I i i (by grind);have hlen:=mapM_some_length I;simp only[Z6]at hlen;rw[A9 (by omega)]at this;obtain⟨c,q1,q2,_⟩:=uN K m e hp aj n _ _ this;grind)
     simp only[Z6]at hlen;rw[aC7,←ak,←hc,C6]at hr;refine⟨.agg cl,hr,.arr hu (fun x hx=>?_) hlen,rfl⟩;obtain⟨i,hi,rfl⟩:=L5 hx;exact J i i _ (Y1 (by omega)) (by rw[A9 hi])
    grind
   all_goals grind
  ·
   rename_i fs hu;unfold DataW.trod at h;rw[hu]at h;split at h
   case h_9=>
    rename_i ab _ _ ao U;cases U;split at h
    ·
     rename_i hc;rw[C9]at h;obtain⟨xs,I,_⟩:=h;obtain⟨ai,af,an⟩:=K.struct hT hu;obtain⟨cl,hr,hlen,J⟩:=oW (w:=w) (O:=fun _=>False) (g:=fun f:Field=>(ab.drop f.offset).take (P.cellsOf f.type)) (R:=fun f c=>HasTy P f.type c) fs.toList (fun f hf=>by
      obtain⟨i,hi,rfl⟩:=L5 hf;have:=BX I i _ (A9 hi);have hlen:=mapM_some_length I;rw[A9 (by omega)]at this;obtain⟨c,q1,q2,_⟩:=uN K m _ (G5.1 hp _ (B5 hi)) (ai _ (B5 hi)) n _ _ this;grind)
     rw[aC6 (cw:=fun f=>P.cellsOf f.type) fs.toList 0 (fun j f hf=>by grind),List.drop_zero,←af,←hc,List.take_length]at hr;exact⟨.agg cl,hr,.struct hu (by grind) J,rfl⟩
    grind
   all_goals grind
  grind
theorem zH {t:TypeId}{v:Value}{c:CV}(I:HasTy P t c)(h:Value.okWide P w .any base t v):c.isAgg=Value.isAgg' v:=by
 cases I with
 |bool hu b=>unfold Value.okWide at h;rw[hu]at h;simp only[Cell.okWide,hu]at h;cases v<;>simp_all[Cell.ok,CV.isAgg,Value.isAgg']
 |int hu hw=>unfold Value.okWide at h;rw[hu]at h;simp only[Cell.okWide,hu]at h;cases v<;>simp_all[Cell.ok,CV.isAgg,Value.isAgg']
 |str hu hs=>unfold Value.okWide at h;rw[hu]at h;simp only[Cell.okWide,hu]at h;cases v<;>simp_all[Cell.ok,CV.isAgg,Value.isAgg']
 |slc hu hl hn=>unfold Value.okWide at h;rw[hu]at h;simp only[Cell.okWide,hu]at h;cases v<;>simp_all[Cell.ok,CV.isAgg,Value.isAgg']
 |arr hu hl hn=>unfold Value.okWide at h;rw[hu]at h;obtain⟨cs,rfl,_⟩:=h;rfl
 |struct hu hn hl=>unfold Value.okWide at h;rw[hu]at h;obtain⟨cs,rfl,_⟩:=h;rfl
theorem aZ6 (b:Nat): ¬Own (fun _=>none) b:=by rintro⟨_,_,h,_⟩;cases h
theorem uO (K:Kids P T){m:Nat}: ∀{ts:List TypeId} {U:List Value} {ds:List (DataW H)} {ps:List MemPlace},DataW.TrodAll enc P w base sp held ts U ds ps→(∀t∈ts,oV P m t=true∧T t)→
  (∀(j:Nat) t v,ts[j]? =some t→U[j]? =some v→Value.okWide P w .any 0 t v)→
  ∃cs:List CV,RepHV w (fun _=>none) (Owned (fun _=>none) (fun _=>False)) (cs.map .c) U∧cs.length=ts.length∧ds.length=ts.length∧ ∀(j:Nat) t c,ts[j]? =some t→cs[j]? =some c→HasTy P t c
 |[],U,ds,ps,h,_,_=>by
  obtain⟨rfl,rfl,rfl⟩:=Z8 h;exact⟨[],by simp[RepHV],rfl,rfl,by simp⟩
 |t::ts,U,ds,ps,h,hp,ho=>by
  obtain⟨v,ab,d,ad,a,b,rfl,rfl,rfl,⟨n,h1⟩,h2⟩:=Z0 h;obtain⟨c,q1,q2,_⟩:=uN (w:=w) K m t (hp t (by simp)).1 (hp t (by simp)).2 n _ _ h1;obtain⟨cs,r1,r2,r3,r4⟩:=uO K h2 (fun t ht=>hp t (by simp[ht])) (fun j t v J I=>ho (j+1) t v (by simpa using J) (by simpa using I));have aa:Stay w (fun _=>False) w (Owned (fun _=>none) (fun _=>False)):=⟨fun b _ _=>⟨rfl,fun hb=>hb.elim (fun x=>x) (aZ6 b)⟩⟩;refine⟨c::cs,?_,by simp[r2],by simp[r3],fun j t' c' J I=>?_⟩
  · rw[B8,bJ];exact⟨v,ab,rfl,⟨by simp only[RepH];exact q1.stay aa,zH q2 (ho 0 t v rfl rfl)⟩,r1⟩
  ·
   cases j with
   |zero=>simp at J I;rw[←J,←I];exact q2
   |succ j=>simp at J I;exact r4 j t' c' J I
theorem bV8 {w w':World}(h: ∀b,b<w.heap.size→w'.heap[b]? =w.heap[b]?){p:MemPlace}(hp:p.block<w.heap.size):w.sameAt w' p:=by
 cases p with
 |cell b off=>exact World.cell?_of_block (h b hp)
 |map b=>exact h b hp
theorem sG {w':World}: ∀{ts:List TypeId} {I:List Value} {J:List (DataW H)} {ps:List MemPlace},DataW.TrodAll enc P w base sp held ts I J ps→(∀p∈ps,w.sameAt w' p)→DataW.TrodAll enc P w' base sp held ts I J ps
 |[],_,_,_,h,_=>by
  obtain⟨rfl,rfl,rfl⟩:=Z8 h;exact Z9
 |t::ts,_,_,_,h,hs=>by
  obtain⟨v,U,d,aa,a,b,rfl,rfl,rfl,⟨n,h1⟩,h2⟩:=Z0 h;exact⟨a,b,⟨n,DataW.trod_carry n t _ _ h1 (fun p hp=>hs p (T9 _ hp))⟩,sG h2 (fun p hp=>hs p (L3 _ hp)),rfl⟩
theorem bJ4 {w w':World}(I:w'.os=w.os)(J:w'.output=w.output)(h: ∀b,b<w.heap.size→w'.heap[b]? =w.heap[b]?)(may:MemPlace→Prop):w.keptBut w' may:=by
 refine⟨I,J,fun i hi=>?_⟩;grind
end
end Go.Hl
namespace Go.Hl
open Go Go.RowKit Go.Sort Go.Proofs
end Go.Hl
namespace Go.Hl
open Go Go.RowKit
end Go.Hl
namespace Go.Hl
open Go Go.RowKit Go.Sort
abbrev qC :=List (Nat×List Value)
def iM (T:qC):Ob:=fob [(0,.tab T)]
def qD (P:Program)(f:FuncId)(T:qC)(args:List CV)(R:CV→Prop):Prop:=
 HFn P f (args.map .c) 1 (iM T) (fun r ob'=> ∃v,r= .c v∧ob'=iM T∧R v)
def uP (P:Program)(f:FuncId)(T:qC)(args:List CV)(R:CV→CV→Prop):Prop:=
 HFn P f (args.map .c) 1 (iM T) (fun r ob'=> ∃u v,r= .tup [.c u,.c v]∧ob'=iM T∧R u v)
theorem jD (T:qC)(j:Nat):iM T j=if j=0 then some (.tab T)else none:=by
 simp only[iM,fob_at,fob_nil]
theorem iP (T:qC)(args:List CV):LocOk 1 (args.map .c) (iM T):=by
 refine⟨fun j h=>?_,fun id o h=>?_,HV.menL_c⟩
 ·
  have:j=0:=by omega
  subst this;exact⟨_,rfl⟩
 grind[jD,HO.men]
variable {T:qC}{ob:Ob}
theorem cG0 {cl:List Nat}(hb:ob 0=some (.tab T))(U:0∉cl)(j:Nat)(o:HO)(I:iM T j=some o):
  j<1+4∧o.men (· <1+4)∧id j∉cl∧ ∃J,ob (id j)=some J∧(match J with| .box t v=>HO.box t (v.close ob cl).norm| .row e sz l=> .row e sz l| .mp e sz D=> .mp e sz D| .dead=> .dead| .tab T=> .tab T| .hrow e sz l=> .hrow e sz (HV.closeL ob cl l)| .raw es c=> .raw es c| .it m s q l=> .it m s q l)=o.ren id:=by
 rw[jD]at I;split at I
 ·
  subst_vars
  cases I;exact⟨by omega,by simp[HO.men],U,_,hb,rfl⟩
 grind
variable {r:HV}
theorem oX {R:CV→Prop}(cl:List Nat)(v:CV)(h:(r.close ob cl).norm= .c v)(U:ob 0=some (.tab T))(I:0∉cl)(J:R v):
  gR 1 r ob (fun r ob'=> ∃v,r= .c v∧ob'=iM T∧R v):=
 ⟨cl,id,.c v,iM T,⟨v,rfl,rfl,J⟩,by rw[h];rfl,fun _ _=>rfl,fun _ _ _ _ h=>h,by simp[HV.men],cG0 U I⟩
variable {R:CV→CV→Prop}
theorem gI (cl:List Nat)(u v:CV)(h:(r.close ob cl).norm= .tup [.c u,.c v])(U:ob 0=some (.tab T))(I:0∉cl)(J:R u v):
  gR 1 r ob (fun r ob'=> ∃u v,r= .tup [.c u,.c v]∧ob'=iM T∧R u v):=
 ⟨cl,id,.tup [.c u,.c v],iM T,⟨u,v,rfl,rfl,J⟩,by grind[HV.ren,HV.renL],fun _ _=>rfl,fun _ _ _ _ h=>h,by simp[HV.men,HV.menL],cG0 U I⟩
variable {nid:Nat}
theorem yP {id:Nat}(hid:ob id=some (.tab T))(I:ob nid=none∧ob (nid+1)=none∧ob (nid+2)=none∧ob (nid+3)=none):bY ob [id] nid (iM T)=ob:=by
 funext i;by_cases e:i=id
 · subst e;simp only[bY,K4,J5,G4,jD,I2,hid];rfl
 ·
  have e':(id==i)=false:=by simp;exact fun h=>e h.symm
  simp only[bY,K4,e',Q5,P6];simp only[G9,L8];split
  ·
   rename_i U;have J:[id].length+(i-nid)≠0:=by simp
   rw[jD,A7 J];grind
  · rfl
theorem aL9 {id:Nat}(hid:ob id=some (.tab T)): ∀j o,iM T j=some o→ob ([id].getD j 0)=some (o.ren (sub [id] nid)):=by grind[jD,HO.ren]
variable {args:List CV}{K:HV→Ob→Prop}{f:FuncId}{av:List Nat}{P:Program}
theorem lY {R:CV→Prop}(id:Nat)(h:qD P f T args R)(hid:ob id=some (.tab T))(aa:id∉av)
  (I:ob nid=none∧ob (nid+1)=none∧ob (nid+2)=none∧ob (nid+3)=none) (hK: ∀v,R v→K (.c v) ob):HCall P av f (args.map .c) ob nid K:=by
 refine⟨[id],args.map .c,_,_,h,iP T args,⟨by simp,by grind⟩,(HV.renL_c _ _).symm,aL9 hid,fun r U J _=>?_⟩;obtain⟨v,rfl,rfl,J⟩:=J;rw[yP hid I];exact hK v J
theorem fO (id:Nat)(h:uP P f T args R)(hid:ob id=some (.tab T))(aa:id∉av)
  (I:ob nid=none∧ob (nid+1)=none∧ob (nid+2)=none∧ob (nid+3)=none) (hK: ∀u v,R u v→K (.tup [.c u,.c v]) ob):HCall P av f (args.map .c) ob nid K:=by
 refine⟨[id],args.map .c,_,_,h,iP T args,⟨by simp,by grind⟩,(HV.renL_c _ _).symm,aL9 hid,fun r U J _=>?_⟩;obtain⟨u,v,rfl,rfl,J⟩:=J;rw[yP hid I];exact hK u v J
theorem bJ5 {g:Nat}{name:String}{k:IntKind}{zs:List Int}(aa:fC P f=true)(hg:P.globalNamed name=some g)(hT:(g,zs.map fun z=>Value.int k z)∈T){a b:Int}{s:List UInt8}
  (hc: ∀w:World,Lib.TabIs P w name k zs→Calls P f #[.int .i64 a,.int .i64 b] w fun e w'=>e= .returned (.string ⟨s.toArray⟩)∧ ∃n os,w'=grow (w.drewN n) os):
  qD P f T [.int .i64 a,.int .i64 b] (fun v=>v= .str s):=by
 refine⟨uA aa,fun w ρ X xs hS hA hX=>Does.of aa ?_⟩;have h0:=hS.objs 0 _ (rfl:iM T 0=some (.tab T));have I:Lib.TabIs P w name k zs:=by
  obtain⟨-,h1⟩:=h0;obtain⟨⟨t,fz,h2⟩,-⟩:=h1 _ hT;simp only[Lib.TabIs,World.var?,hg,J0,h2]
 simp only[B8,F2,bJ,RepHV]at hA;obtain⟨x,ae,rfl,hx,y,ad,rfl,hy,rfl⟩:=hA;have h1:=RepV.single hx rfl;have h2:=RepV.single hy rfl;simp only[RepC,F8,J9]at h1 h2;subst h1 h2;refine(hc w I).mono ?_;rintro ex w' ⟨rfl,n,os,rfl⟩;have U:Stay2 w (Own ρ) (grow (w.drewN n) os) (Own ρ):=⟨fun c af _=>by grind[grow,World.drewN,Array.getElem?_append_left],fun _ h=> .inl h,by simp_all,rfl,rfl,rfl⟩;have ab:=U.stay X;refine⟨_,_,ρ,_,rfl,⟨_,rfl,rfl,rfl⟩,⟨?_,⟨fun i o J=>?_,hS.none,hS.apart,hS.xb⟩,by simp[HV.men],fun i o J=>?_,U,Moves.refl _ _⟩⟩
 · refine bQ ?_ rfl rfl;simp[RepC]
 ·
  rw[jD]at J;split at J
  ·
   subst_vars
   cases J;exact⟨h0.1,nL ab h0.2⟩
  · cases J
 grind[jD,HO.men]
end Go.Hl
namespace Go.Hl
open Go Go.RowKit
section
variable {P:Program}{T:TypeId→Prop}{H:Type}{enc:TypeId×Value→H}
theorem bV9 {W:World}{args:Array Value}{f:FuncId}{fn:Func}{s:ChangeSpec}{mm:Nat}{tb:TypeId}{tabs:qC}(ax:fC P f=true)(K:Kids P T)(hz: ∀t e,T t→P.underlying t=some (.slice e)→0<P.cellsOf e)(I:s.vars=[])(aa:fn.resultTypes= #[tb])(ay:P.underlying tb=some .bool)
  (ab: ∀(H:Type) (ds:List (DataW H)),ds.length=fn.params.toList.length→(s.fn H ds).results=[.lit (.bool true)]∧(s.fn H ds).args=ds∧(s.fn H ds).vars=[]) (ag: ∀t∈fn.params.toList,oV P mm t=true∧T t)
  (ak: ∀cs:List CV,cs.length=fn.params.toList.length→(∀(j:Nat) t c,fn.params.toList[j]? =some t→cs[j]? =some c→HasTy P t c)→RepHV W (fun _=>none) (Owned (fun _=>none) (fun _=>False)) (cs.map .c) args.toList→qD P f tabs cs (fun v=>v= .bool true))
  (aj: ∀x∈tabs,∃t fz,W.heap[x.1]? =some (.cells x.2.toArray t fz)) {ds gs:List (DataW H)} {before:List MemPlace} (an: ∀(j:Nat) t v,fn.params[j]? =some t→args[j]? =some v→Value.okWide P W .any 0 t v)
  (hW:DataW.Whole enc P fn.params.toList s.vars false W args.toList ds gs before):
  Calls P f args W fun e W'=> ∃v,e= .returned v∧s.post enc P fn false true false false W args v W':=by
 have ao:=hW;obtain⟨p,q,hA,hV,rfl,az,ba⟩:=hW;rw[I]at hV;obtain⟨rfl,rfl⟩:=ChangeShapes.trodVars_none hV;simp only[J7]at ao az;obtain⟨cs,r1,r2,r3,r4⟩:=uO (m:=mm) K hA ag (fun j t v h1 h2=>an j t v (by grind) (by grind));obtain⟨_,af⟩:=ak cs r2 r4 r1;have hS:RepS W (fun _=>none) (fun _=>False) (iM tabs):=by
  refine⟨fun i o h=>?_,fun _ _=>rfl,fun _ _ _ _ _ h=>(by grind),fun _ _ _ h=>(by grind)⟩;rw[jD]at h;split at h
  ·
   cases h;refine⟨rfl,fun x hx=>⟨aj x hx,?_⟩⟩;rintro(h1|⟨i,L,h1,_⟩)
   · exact h1
   · cases h1
  · cases h
 have J:=af W (fun _=>none) (fun _=>False) args.toList hS r1 (fun _ h=>h.elim);rw[T7]at J;refine(J.calls ax).mono ?_;rintro e W' ⟨r,ob',ρ',x,rfl,⟨v,rfl,rfl,rfl⟩,hg⟩;obtain⟨ai,ar⟩:=hg.v;have hx:x= .bool true:=by
  have aw:Value.isAgg' x=false:=by rw[←ar];rfl
  rw[cells_single aw]at ai;simpa[RepH,RepC]using ai
 subst hx;have U: ∀b,b<W.heap.size→W'.heap[b]? =W.heap[b]? :=fun b hb=>hg.stay.block b hb (aZ6 b);obtain⟨s1,s2,s3⟩:=ab H (ds++[]) (by simpa using r3);have ah: ∀a∈p,a.block<W.heap.size:=hA.lt;have ae: ∀sp:Nat→Bool,(∀a∈p,sp a.block=true)→DataW.TrodAll enc P W' 0 sp true fn.params.toList args.toList ds p:=fun sp aq=>
  sG (hA.respare K hz (fun t ht=>(ag t ht).2) aq) (fun a ha=>bV8 U (ah a ha))
 have au:Value.resultList fn.resultTypes.size (.bool true)=[.bool true]:=by rw[aa];rfl
 have ad: ∀(b:Nat) (sp:Nat→Bool) (hd:Bool),DataW.TrodAll enc P W' b sp hd fn.resultTypes.toList (Value.resultList fn.resultTypes.size (.bool true)) [.lit (.bool true)] []:=fun b sp hd=>by
  rw[au,aa];exact trodAll_cons_mk (RowKit.shut_bool ay true) Z9
 refine⟨.bool true,rfl,ds,[],p,[],p,[],by simpa using ao,?_,?_,?_,?_,?_⟩
 · rw[s1];exact ad _ _ _
 · rw[s2];simpa using ae _ (fun a ha=>by simpa using ah a ha)
 · rw[s3,I];rfl
 · exact bJ4 hg.stay.os hg.stay.output U _
 · intro h;cases h
theorem bW0 {f:FuncId}{fn:Func}{s:ChangeSpec}{mm:Nat}{tb:TypeId}{tabs:qC}(ag:fC P f=true)(K:Kids P T)(hz: ∀t e,T t→P.underlying t=some (.slice e)→0<P.cellsOf e)(J:s.vars=[])(ae:fn.resultTypes= #[tb])(ah:P.underlying tb=some .bool)
  (I: ∀(H:Type) (U:List (DataW H)),U.length=fn.params.toList.length→(s.fn H U).results=[.lit (.bool true)]∧(s.fn H U).args=U∧(s.fn H U).vars=[]) (af: ∀t∈fn.params.toList,oV P mm t=true∧T t)
  (ab: ∀cs:List CV,cs.length=fn.params.toList.length→(∀(j:Nat) t c,fn.params.toList[j]? =some t→cs[j]? =some c→HasTy P t c)→qD P f tabs cs (fun v=>v= .bool true))
  {W:World} (aa: ∀x∈tabs,∃t fz,W.heap[x.1]? =some (.cells x.2.toArray t fz)) {args:Array Value} {U gs:List (DataW H)} {before:List MemPlace} (ad: ∀(j:Nat) t v,fn.params[j]? =some t→args[j]? =some v→Value.okWide P W .any 0 t v)
  (hW:DataW.Whole enc P fn.params.toList s.vars false W args.toList U gs before):
  Calls P f args W fun e W'=> ∃v,e= .returned v∧s.post enc P fn false true false false W args v W':=
 bV9 ag K hz J ae ah I af (fun cs h1 h2 _=>ab cs h1 h2) aa ad hW
end
theorem aI7 {P:Program}{W:World}{name:String}{k:IntKind}{zs:List Int}{g:Nat}(J:P.globalNamed name=some g)(h:Lib.TabIs P W name k zs): ∃t I,W.heap[g]? =some (.cells (zs.map fun z=>Value.int k z).toArray t I):=by grind[Lib.TabIs,World.var?]
end Go.Hl
