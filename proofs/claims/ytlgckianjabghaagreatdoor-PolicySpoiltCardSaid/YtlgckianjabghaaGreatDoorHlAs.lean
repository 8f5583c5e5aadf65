/- HL: a string's bytes appended to a row of bytes; the bytes of a slice as a string. By an AI agent. -/
import Derived.Maps.Own
import Derived.Lib.AppendStr
import Derived.Laws.IdiomStrings
import Derived.Test.YtlgckianjabghaaGreatDoorHlJ
set_option linter.unusedSimpArgs false
set_option linter.unusedVariables false
set_option linter.defProp false
namespace Go.Hl
open Go
open Go.ChangeMaps (setBlock heap_setBlock_same heap_setBlock_other)
theorem mO (z:Array Value): ∀n,(Builtin.zeroCells z n).toList=(List.replicate n z.toList).flatten
 |0=>by simp[Builtin.zeroCells]
 |n+1=>by
  have ih:=mO z n;simp only[Builtin.zeroCells,O9,Array.toList_range]at ih⊢;rw[Z7,List.range_add,C5,ih,List.replicate_succ',List.flatten_append];congr 1;simp only[R5,List.flatten_nil,J6,P7];apply BI;intro i;simp only[N3,U9];by_cases hi:i<z.size
  · rw[W6 hi];simp only[H8,Function.comp,Nat.mul_add_mod_of_lt' hi,hi,Array.getElem?_eq_getElem];grind
  grind
where
 Nat.mul_add_mod_of_lt' {n i s:Nat} (h:i<s):(n*s+i)%s=i:=by
  rw[Nat.mul_comm,Nat.mul_add_mod,Nat.mod_eq_of_lt h]
theorem oG {w:World}{O:Nat→Prop}{z:CV}{cs:List Value}(h:RepC w O z cs): ∀n,RepL w O (List.replicate n z) (List.replicate n cs).flatten
 |0=>by simp[RepL]
 |n+1=>by simp only[AS,R5,RepL];exact⟨cs,_,rfl,h,oG h n⟩
def hlo (lo:Option HV)(dflt:Int):Option Int:=match lo with|none=>some dflt|some (.c (.int _ i))=>some i|_=>none
def hslice2 (P:Program)(t:TypeId)(x:HV)(lo hi:Option HV)(ob:Ob)(K:HV→Prop):Prop:=
 match x with
 | .own id n=>hlift (aT P t) fun ti=>match ti.d,ob id with
  | .slice e,some (.row _ sz l)=>hlift (aT P e) fun te=>(n=l.length∧0<n∧sz=te.size)∧hlift (hlo lo 0) fun a=>hlift (hlo hi n) fun b=>(0≤a∧a≤b∧b≤(n:Int))∧K (.osl id n a.toNat sz b.toNat)
  |_,_=>False
 | .ptr id off=>hlift (aT P t) fun ti=>match ti.d,ob id with
  | .array m e,some (.box _ _)=>hlift (aT P e) fun te=>off=0∧hlift (hlo lo 0) fun a=>hlift (hlo hi m) fun b=>(0≤a∧a≤b∧b≤(m:Int))∧K (.osl id m a.toNat te.size b.toNat)
  |_,_=>False
 |x=>hslice P t x lo hi K
def cQ8 (l u:List CV)(lo:Nat):List CV:=l.take lo++u++l.drop (lo+u.length)
def hcopy (P:Program)(t:TypeId)(d s:HV)(ob:Ob)(K:HV→Ob→Prop):Prop:=
 hlift (aT P t) fun ti=>match ti.d,d with
  | .slice e,.osl id n lo sz hi=>hlift (aT P e) fun te=>match ob id with
   |some (.box T (.c (.agg l)))=>hlift (hread s ob) fun u=>(n=l.length∧sz=te.size∧lo≤hi∧hi≤n∧(∀v∈l,v.cells=sz)∧ ∀v∈u,v.cells=sz)∧
     K (.c (.int .i64 ((min u.length (hi-lo):Nat):Int))) (upd ob id (some (.box T (.c (.agg (cQ8 l (u.take (hi-lo)) lo))))))
   |_=>False
  |_,_=>False
def hclear (P:Program)(t:TypeId)(x:HV)(ob:Ob)(K:HV→Ob→Prop):Prop:=
 hlift (aT P t) fun ti=>match ti.d,x with
  | .slice e,.osl id n lo sz hi=>hlift (aT P e) fun te=>match ob id with
   |some (.row e' sz' l)=>(n=l.length∧0<n∧sz=sz'∧sz=te.size∧lo≤hi∧hi≤n)∧K .junk (upd ob id (some (.row e' sz' (l.take lo++List.replicate (hi-lo) te.z++l.drop hi))))
   |_=>False
  |_,_=>False
def xV :Option MV→Bool
 |none=>true
 |some (.row _)=>true
 |_=>false
def aJ3 :Option MV→Bool
 |none=>true
 |some (.row _)=>true
 |some (.pend _)=>true
 |_=>false
def oH :Option MV→Bool
 |none=>true
 |some (.val _)=>true
 |_=>false
def aC6 (z:CV):Option MV→CV
 |some (.val v)=>v
 |_=>z
def hmakeMap (P:Program)(t:TypeId)(nid:Nat)(ob:Ob)(K:HV→Ob→Prop):Prop:=
 hlift (aT P t) fun ti=>match ti.d with
  | .map _ et=>hlift (aT P et) fun te=>match te.d with
   | .slice e=>hlift (aT P e) fun t2=>K (.mapr nid) (upd ob nid (some (.mp e t2.size [])))
   |_=>K (.mapr nid) (upd ob nid (some (.mp 0 0 [])))
  |_=>False
def hlookup (P:Program)(t:TypeId)(m k:HV)(ob:Ob)(K:HV→Prop):Prop:=
 hlift (aT P t) fun ti=>match ti.d with
  | .map kt et=>hlift (aT P kt) fun tk=>hlift (aT P et) fun te=>match tk.d,m,k with
   | .string,.mapr id,.c (.str s)=>s.length≤maxLen∧match ob id with
    |some (.mp _ _ D)=>match te.d,te.z with
     | .slice _,.nils=>xV (dA D s)=true∧K (.mrow id s (gC (dA D s)).length)
     |_,_=>oH (dA D s)=true∧K (.c (aC6 te.z (dA D s)))
    |_=>False
   |_,_,_=>False
  |_=>False
def hmapUpdate (P:Program)(t:TypeId)(m k v:HV)(ob:Ob)(K:HV→Ob→Prop):Prop:=
 hlift (aT P t) fun ti=>match ti.d with
  | .map kt et=>hlift (aT P kt) fun tk=>hlift (aT P et) fun te=>match tk.d,m,k with
   | .string,.mapr id,.c (.str s)=>s.length≤maxLen∧match ob id with
    |some (.mp e sz D)=>match te.d,v with
     | .slice _,.mrow id2 s2 n=>(id2=id∧s2=s∧n=(gC (dA D s)).length∧aJ3 (dA D s)=true)∧K .junk (upd ob id (some (.mp e sz (lJ D s (.row (gC (dA D s)))))))
     |_,.c cv=>oH (dA D s)=true∧K .junk (upd ob id (some (.mp e sz (lJ D s (.val cv)))))
     |_,_=>False
    |_=>False
   |_,_,_=>False
  |_=>False
def happend2 (P:Program)(t:TypeId)(s x:HV)(nid:Nat)(ob:Ob)(K:HV→Ob→Prop):Prop:=
 match s with
 | .mrow id k n=>hlift (aT P t) fun ti=>match ti.d with
  | .slice e=>hlift (aT P e) fun te=>hlift (hread x ob) fun l2=>(∀v∈l2,v.cells=te.size)∧
   match ob id with
   |some (.mp e' sz D)=>(aJ3 (dA D k)=true∧n=(gC (dA D k)).length∧e'=e∧sz=te.size)∧((gC (dA D k)).length+l2.length)*te.bytes≤140737488355328∧(gC (dA D k)).length+l2.length≤maxLen∧
     K (.mrow id k (gC (dA D k)++l2).length) (upd ob id (some (.mp e' sz (lJ D k (.pend (gC (dA D k)++l2))))))
   |_=>False
  |_=>False
 |s=>happend P t s x nid ob K
section
variable {P:Program}{c:Ctx}{M M':Nat→Prop}{fr:Fr}{ob:Ob}{a:Act}{w:World}{ρ:Env}
theorem mA (h:RepA' c M fr ob a w ρ){lo:Option Operand}{dflt l:Int}(hl:hlo (lo.map (ev fr)) dflt=some l):(lo=none∧l=dflt)∨ ∃x k,lo=some x∧a.eval x= .int k l:=
 gZ h hl
theorem aJ4 (h:RepA' c M fr ob a w ρ){t:TypeId}{x:Operand}{lo hi:Option Operand}{K:HV→Prop}(hl:hslice2 P t (ev fr x) (lo.map (ev fr)) (hi.map (ev fr)) ob K):
  ∃u y,K u∧(Instr.sliceAt t (a.eval x) (lo.map a.eval) (hi.map a.eval) none).run P w= .ok y w∧RepV w ρ (Owned ρ c.X) u y∧u.men M:=by
 unfold hslice2 at hl;split at hl
 ·
  rename_i id n hx;rw[aD]at hl;obtain⟨ti,ht,hl⟩:=hl;obtain⟨i0,d0,zv0,hty⟩:=bM ht;have hdd:=hty.d_;split at hl
  ·
   rename_i e sz0 sz l hd0 ho;rw[hd0]at hdd;have hu:P.underlying t=some (.slice e):=by rw[hty.under];congr 1;cases d0<;>simp[tyd]at hdd;grind
   rw[aD]at hl;obtain⟨te,hte,⟨hn,hn0,rfl⟩,hl⟩:=hl;obtain⟨ie,de,zve,htye⟩:=bM hte;rw[aD]at hl;obtain⟨lo',hlo,hl⟩:=hl;rw[aD]at hl;obtain⟨hi',hhi,hb,hK⟩:=hl;obtain⟨hd,xs,h1,h2,h3,h4,h5,how⟩:=mM h hx ho hn;rcases how.2 with⟨rfl,hz⟩|⟨g,cap,cur,rfl,_,hg,hcap,_⟩
   · omega
   have hbr:=dJ (P:=P) (w:=w) (a:=a) true n cap (mA h hlo) (mA h hhi) hb hcap;have hsz:(sizeOf e).run P w= .ok te.size w:=by rw[cD htye.info,htye.size]
   have hid:=h.evm x;rw[hx]at hid;refine⟨_,.slice (if cap=lo'.toNat then some ⟨g,0,none⟩else(some (⟨g,0,none⟩:Addr)).map (·.add (lo'.toNat*te.size))) (hi'.toNat-lo'.toNat) (cap-lo'.toNat),hK,?_,?_,by simpa[HV.men]using hid⟩
   · simp_all[Instr.sliceAt,F8,D3,E4,Instr.slice,I5]
   · refine dR ?_ rfl rfl;simp only[RepH];refine⟨_,rfl,by simp[Value.oneCell'],fun hd' hρ=>?_,fun b hρ=>by grind⟩;rw[h1]at hρ;cases hρ;refine⟨by grind,fun _ g' cap' e'=>?_⟩;cases e';congr 1;by_cases hc:cap=lo'.toNat;all_goals simp_all[J2,H8,D6,Addr.add]
  grind
 ·
  rename_i id off hx;rw[aD]at hl;obtain⟨ti,ht,hl⟩:=hl;obtain⟨i0,d0,zv0,hty⟩:=bM ht;have hdd:=hty.d_;split at hl
  ·
   rename_i m e T v hd0 ho;rw[hd0]at hdd;have hu:P.underlying t=some (.array m e):=by rw[hty.under];congr 1;cases d0<;>simp[tyd]at hdd;grind
   rw[aD]at hl;obtain⟨te,hte,rfl,hl⟩:=hl;obtain⟨ie,de,zve,htye⟩:=bM hte;rw[aD]at hl;obtain⟨lo',hlo,hl⟩:=hl;rw[aD]at hl;obtain⟨hi',hhi,hb,hK⟩:=hl;obtain⟨b,hρ,he⟩:=kW h hx (by rw[ho];rfl);have hbr:=dJ (P:=P) (w:=w) (a:=a) false m m (mA h hlo) (mA h hhi) hb (F2 _);have hsz:(sizeOf e).run P w= .ok te.size w:=by rw[cD htye.info,htye.size]
   have hid:=h.evm x;rw[hx]at hid;refine⟨_,.slice (some (if m=lo'.toNat then⟨b,0,none⟩else(⟨b,0,none⟩:Addr).add (lo'.toNat*te.size))) (hi'.toNat-lo'.toNat) (m-lo'.toNat),hK,?_,?_,by simpa[HV.men]using hid⟩
   · simp_all[Instr.sliceAt,F8,D3,E4,Instr.sureAddr,I5]
   · refine dR ?_ rfl rfl;simp only[RepH];refine⟨_,rfl,by simp[Value.oneCell'],fun hd' hρ'=>(by grind),fun b' hρ'=>?_⟩;rw[hρ]at hρ';cases hρ';congr 1;by_cases hc:m=lo'.toNat;all_goals simp_all[J2,D6,Addr.add]
  grind
 · exact aQ0 h hl
theorem aZ6 (h:RepA' c M fr ob a w ρ){t t' ty:TypeId}{x y:Operand}{K:HV→Ob→Prop}(hl:hcopy P t (ev fr x) (ev fr y) ob K):
  ∃v ob' z w',K v ob'∧(Builtin.copy_ #[t,t'] ty #[a.eval x,a.eval y]).run P w= .ok z w'∧ ∀(d:Option Nat),(∀k,d=some k→k<c.n)→RepA' c M (updo fr d v) ob' (a.put d z) w' ρ:=by
 unfold hcopy at hl;rw[aD]at hl;obtain⟨ti,ht,hl⟩:=hl;obtain⟨i0,d0,zv0,hty⟩:=bM ht;have hdd:=hty.d_;split at hl
 ·
  rename_i e id n lo sz hi hd0 hx;rw[hd0]at hdd;have hu:P.underlying t=some (.slice e):=by rw[hty.under];congr 1;cases d0<;>simp[tyd]at hdd;rw[hdd]
  rw[aD]at hl;obtain⟨te,hte,hl⟩:=hl;obtain⟨ie,de,zve,htye⟩:=bM hte;split at hl
  ·
   rename_i T l ho;rw[aD]at hl;obtain⟨u,hrd,⟨hn,hse,hlo,hhi,hcl,hcu⟩,hK⟩:=hl;subst hn hse;obtain⟨ad,m,cap,xs,hsv,hm,hxs,hnone,hcells,_⟩:=jI h hrd;subst hm;obtain⟨b,cs,hρ,hb,hcs⟩:=h.box ho;simp only[RepH,RepC]at hcs;have hr:=dQ (h.ev x (by rw[hx];simp)) (by rw[hx];rfl);rw[hx]at hr;simp only[RepH]at hr;obtain⟨⟨y',hy,hy1,_,hy2⟩,_⟩:=hr;simp only[G4,L8]at hy;have hxe:=hy2 b hρ;rw[←hy]at hxe;have hsz:(sizeOf e).run P w= .ok te.size w:=by rw[cD htye.info,htye.size]
   obtain⟨k,hk⟩: ∃k,k=min u.length (hi-lo):=⟨_,rfl⟩;have hku:(u.take (hi-lo)).length=k:=by rw[D9,hk,Nat.min_comm]
   have hxl:xs.length=u.length*te.size:=eN hxs hcu;have hcl2:cs.length=l.length*te.size:=eN hcs hcl;have hxk:(xs.take (k*te.size)).length=k*te.size:=by
    rw[D9,hxl];exact G5 (I8 _ (by omega))
   have hxt:RepL w (Owned ρ c.X) (u.take (hi-lo)) (xs.take (k*te.size)):=by
    have:=gF k hxs hcu;have e:u.take k=u.take (hi-lo):=by
     rcases Nat.le_total u.length (hi-lo)with h1|h1
     · rw[hk,G5 h1,E6 (F2 _),E6 h1]
     · rw[hk,Nat.min_eq_right h1]
    rw[←e];exact this
   have hload:(Builtin.firstCells te.size k (.slice ad u.length cap)).run P w= .ok (xs.take (k*te.size)).toArray w:=by
    cases ad with
    |none=>
     have:=hnone rfl;have hk0:k=0:=by omega
     simp[Builtin.firstCells,hk0]
    |some b'=>
     have:=run_loadCells_list (P:=P) w b' (xs.take (k*te.size)) (fun j v hj=>by
      rw[O2]at hj;split at hj
      · exact hcells b' rfl j v hj
      · cases hj)
     rw[hxk]at this;simpa only[Builtin.firstCells]using this
   obtain⟨off,hoff⟩: ∃off,off=if l.length=lo then 0 else lo*te.size:=⟨_,rfl⟩
   have hbound:off+k*te.size≤cs.length:=by
    rw[hoff,hcl2];split
    ·
     have:k=0:=by omega
     simp[this]
    · rw[←Nat.add_mul];exact I8 _ (by omega)
   have hrun:=Y1 P b off T (xs.take (k*te.size)) 0 cs.toArray w hb (by simp only[I6,hxk];omega) (jS hxt);simp only[N0,hxk]at hrun;have hnew:RepL w (Owned ρ c.X) (cQ8 l (u.take (hi-lo)) lo) (cs.take off++xs.take (k*te.size)++cs.drop (off+k*te.size)):=by
    simp only[cQ8,hku];by_cases hk0:k=0
    · have e1:u.take (hi-lo)=[]:=D5 (by omega);rw[e1,hk0];simpa using hcs
    ·
     have hoff2:off=lo*te.size:=by rw[hoff,A7 (by omega)]
     rw[hoff2,←Nat.add_mul];exact eQ.2 ⟨_,_,rfl,eQ.2 ⟨_,_,rfl,gF lo hcs hcl,hxt⟩,iL (lo+k) hcs hcl⟩
   refine⟨_,_,.int .i64 ((k:Nat):Int),w.setRow b (cs.take off++xs.take (k*te.size)++cs.drop (off+k*te.size)).toArray,hK,?_,fun d hd=>h.setObj (b0:=b) hρ rfl (h.mo id _ ho).1 (fun b' hb'=>Q6 w b b' _ hb') (V6 _ _ _) rfl rfl rfl (fun hst=>?_) (by simp[HO.men,HV.men]) (fun _=> .inr (by rw[←hk];exact eV _ _ _ _ _)) (by simp[HV.men]) hd⟩
   ·
    rw[hxe,hsv,←hoff];simp only[Builtin.copy_,O1,M3,N2,F8,D3 hu,E4,Builtin.lenOf,I5,hsz];have e:Nat.min u.length (hi-lo)=k:=by rw[hk]
    simp only[e,hload,E4,hrun,goInt]
   · refine⟨b,_,hρ,R7 w b _ _ T (0,0) hb,?_⟩;simp only[RepH,RepC];exact hnew.stay hst
  · exact hl.elim
 · exact hl.elim
theorem aQ1 (h:RepA' c M fr ob a w ρ){t ty:TypeId}{x:Operand}{K:HV→Ob→Prop}(hl:hclear P t (ev fr x) ob K):
  ∃ob' w',K .junk ob'∧(Builtin.clear_ #[t] ty #[a.eval x]).run P w= .ok (.tuple #[]) w'∧ ∀(d:Option Nat) (z:Value),(∀k,d=some k→k<c.n)→RepA' c M (updo fr d .junk) ob' (a.put d z) w' ρ:=by
 unfold hclear at hl;rw[aD]at hl;obtain⟨ti,ht,hl⟩:=hl;obtain⟨i0,d0,zv0,hty⟩:=bM ht;have hdd:=hty.d_;split at hl
 ·
  rename_i e id n lo sz hi hd0 hx;rw[hd0]at hdd;have hu:P.underlying t=some (.slice e):=by rw[hty.under];congr 1;cases d0<;>simp[tyd]at hdd;grind
  rw[aD]at hl;obtain⟨te,hte,hl⟩:=hl;obtain⟨ie,de,zve,htye⟩:=bM hte;split at hl
  ·
   rename_i e' sz' l ho;obtain⟨⟨hn,hn0,rfl,hse,hlo,hhi⟩,hK⟩:=hl;obtain⟨hd,xs,hρ,hl2,hcs,how⟩:=h.rowO ho;rcases how.2 with⟨rfl,hz⟩|⟨g,cap,cur,rfl,hg0,hg,hcap,hmax,hcsz,htake⟩
   · omega
   have hr:=dQ (h.ev x (by grind)) (by rw[hx];rfl);rw[hx]at hr;simp only[RepH]at hr;obtain⟨⟨y,hy,hy1,hy2,_⟩,_⟩:=hr;simp only[G4,L8]at hy;obtain⟨_,hy3⟩:=hy2 _ hρ;have hxe:a.eval x= .slice (some ⟨g,if cap=lo then 0 else lo*sz,none⟩) (hi-lo) (cap-lo):=by rw[hy];exact hy3 (by simp[Hl.hlen,hn]) g cap (by rw[hn])
   by_cases hz:hi=lo
   ·
    subst hz;have hl':l.take hi++List.replicate (hi-hi) te.z++l.drop hi=l:=by simp
    rw[hl']at hK;have hob:upd ob id (some (.row e' sz l))=ob:=by
     funext k;by_cases hk:k=id
     · simp_all
     · rw[bJ _ _ hk]
    rw[hob]at hK;refine⟨_,w,hK,?_,fun d z hd=>h.value (.inl rfl) (by simp[HV.men]) hd⟩;rw[hxe];simp[Builtin.clear_,D3 hu]
   ·
    have hne:cap≠lo:=by omega
    have hzv:(zeroValue e).run P w= .ok zve w:=by simp[zeroValue,typeInfo,htye.info,htye.zero]
    have hzl:zve.cells.toList.length=te.size:=by simp[htye.zsize]
    have hzc:(Builtin.zeroCells zve.cells (hi-lo)).toList=(List.replicate (hi-lo) zve.cells.toList).flatten:=mO _ _;have hzlen:(List.replicate (hi-lo) zve.cells.toList).flatten.length=(hi-lo)*sz:=by simp[hzl,hse]
    have hrz:RepL w (Owned ρ c.X) (List.replicate (hi-lo) te.z) (List.replicate (hi-lo) zve.cells.toList).flatten:=oG (htye.rep w _) _;have hbound:lo*sz+(hi-lo)*sz=hi*sz:=by rw[←Nat.add_mul];congr 1;omega
    have hhn:hi*sz≤l.length*sz:=I8 _ (by omega);have hnc:l.length*sz≤cap*sz:=I8 _ hcap;have hrun:=Y1 P g (lo*sz) e' (List.replicate (hi-lo) zve.cells.toList).flatten 0 cur w hg (by grind) (jS hrz);simp only[N0,hzlen]at hrun;have hsplit:cur.toList.take (lo*sz)++(List.replicate (hi-lo) zve.cells.toList).flatten++cur.toList.drop (lo*sz+(hi-lo)*sz)=
      (xs.take (lo*sz)++(List.replicate (hi-lo) zve.cells.toList).flatten++xs.drop (hi*sz))++cur.toList.drop (l.length*sz):=by
     rw[←htake,hbound,R9,G5 (by omega)];simp only[E8];congr 2;rw[AJ];have e1:cur.toList.drop (hi*sz)=(cur.toList.drop (hi*sz)).take (l.length*sz-hi*sz)++cur.toList.drop (l.length*sz):=by
      have e0:cur.toList.drop (l.length*sz)=(cur.toList.drop (hi*sz)).drop (l.length*sz-hi*sz):=by
       rw[List.drop_drop];congr 1;omega
      rw[e0,R3]
     exact e1
    rw[hsplit]at hrun;refine⟨_,w.setRow g ((xs.take (lo*sz)++(List.replicate (hi-lo) zve.cells.toList).flatten++xs.drop (hi*sz))++cur.toList.drop (l.length*sz)).toArray,hK,?_,fun d z hd=>h.setObj (b0:=g) hρ (by simp[Loc.has,Value.ownBlock]) (h.mo id _ ho).1 (fun b' hb'=>Q6 w g b' _ hb') (V6 _ _ _) rfl rfl rfl (fun hst=>?_) trivial (fun _=> .inl rfl) (by simp[HV.men]) hd⟩
    ·
     rw[hxe,A7 hne];have hpos:hi-lo≠0:=by omega
     obtain⟨k,hk⟩:=Nat.exists_eq_succ_of_ne_zero hpos;rw[←hzc]at hrun;rw[hk]at hrun⊢;simp only[Builtin.clear_,F8,D3 hu,E4,hzv,hrun,I5,O1,M3];rw[←hk,hzc]
    ·
     have hnl:(l.take lo++List.replicate (hi-lo) te.z++l.drop hi).length=l.length:=by simp;omega
     refine⟨_,_,hρ,eQ.2 ⟨_,_,rfl,eQ.2 ⟨_,_,rfl,(gF lo hl2 hcs).stay hst,hrz.stay hst⟩,(iL hi hl2 hcs).stay hst⟩,fun v hv=>?_,?_,.inr ⟨g,cap,_,by rw[hnl],F9 _,R7 w g _ _ e' (0,0) hg,by rw[hnl];exact hcap,hmax,?_,?_⟩⟩
     ·
      simp only[F4,BB]at hv;rcases hv with(hv|⟨_,rfl⟩)|hv
      · exact hcs v (H5 hv)
      · rw[hse,←bS (htye.rep w (fun _=>False)),hzl]
      · exact hcs v (G1 hv)
     · rw[hnl];have hxl:=how.1;simp only[A3,D9,B8,hzlen];omega
     ·
      rw[←hcsz];have hxl:=how.1;have hcl:cur.toList.length=cur.size:=by simp
      simp only[I6,A3,D9,B8,hzlen];omega
     · rw[hnl];refine V9 ?_;have hxl:=how.1;simp only[A3,D9,B8,hzlen];omega
  grind
 grind
theorem bG1 (h:RepA' c M fr ob a w ρ){x:Operand}{id:Nat}(hx:ev fr x= .mapr id){e:TypeId}{sz:Nat}{D:MD}(ho:ob id=some (.mp e sz D)):
  ∃b hf,ρ id=some (.mp b hf)∧a.eval x= .map (some b)∧RepM w (Owned ρ c.X) e sz D b hf:=by
 have hr:=dQ (h.ev x (by rw[hx];simp)) (by rw[hx];rfl);rw[hx]at hr;simp only[RepH]at hr;obtain⟨⟨y,hy,hy1,hy2⟩,_⟩:=hr;simp only[G4,L8]at hy;obtain⟨b,hf,h1,h2⟩:=h.s.objs id _ ho;exact⟨b,hf,h1,by rw[hy];exact hy2 _ _ h1,h2⟩
theorem bG2 (h:RepA' c M fr ob a w ρ){x:Operand}{id n:Nat}{k:List UInt8}(hx:ev fr x= .mrow id k n){b:Nat}{hf:List UInt8→Option Value}{hd:Value}(hρ:ρ id=some (.mp b hf))(hk:hf k=some hd)(hn:hlen hd=n):a.eval x=hd:=by
 have hr:=dQ (h.ev x (by rw[hx];simp)) (by rw[hx];rfl);rw[hx]at hr;simp only[RepH]at hr;obtain⟨⟨y,hy,hy1,hy2⟩,_⟩:=hr;simp only[G4,L8]at hy;rw[hy];exact(hy2 _ _ _ hρ hk).2 hn
theorem xW {kt:TypeId}(hk:P.underlying kt=some .string){s:List UInt8}(hs:s.length≤maxLen): ∃l,keyOf P kt (fM s)=some l:=by
 have hsz:(⟨s.toArray⟩:ByteArray).size=s.length:=by simp[ByteArray.size]
 simp[keyOf,hk,mapKey,fM,hsz,hs]
theorem cQ9 {e:TypeId}{sz:Nat}{D:MD}{b:Nat}{hf:List UInt8→Option Value}{O:Nat→Prop}(h:RepM w O e sz D b hf){k:List UInt8}(hk:dA D k≠some .lent): ∃hd,hf k=some hd∧hlen hd=(gC (dA D k)).length∧hd.oneCell'=true:=by
 cases hh:hf k with
 |none=>exact absurd ((h.lent k).1 hh) hk
 |some hd=>
  obtain⟨_,xs,_,_,how⟩:=h.row k hd hh;refine⟨hd,rfl,?_,?_⟩
  ·
   rcases how.2 with⟨rfl,hz⟩|⟨g,cap,cur,rfl,_⟩
   · simp[hlen,hz]
   · simp[hlen]
  · rcases how.2 with⟨rfl,hz⟩|⟨g,cap,cur,rfl,_⟩<;>simp[Value.oneCell']
theorem uK {id n:Nat}{k:List UInt8}{O:Nat→Prop}{b:Nat}{hf:List UInt8→Option Value}{hd:Value}(hρ:ρ id=some (.mp b hf))(hk:hf k=some hd)(hn:hlen hd=n)(h1:hd.oneCell'=true):RepV w ρ O (.mrow id k n) hd:=by
 refine dR ?_ rfl (gY h1);simp only[RepH];refine⟨_,rfl,h1,fun b' hf' h' e1 e2=>?_⟩;rw[hρ]at e1;cases e1;rw[hk]at e2;cases e2;exact⟨by omega,fun _=>rfl⟩
theorem cP2 {t kt et:TypeId}{ti tk:TyI}(ht:aT P t=some ti)(hd:ti.d= .map kt et)(hk:aT P kt=some tk)(hkd:tk.d= .string):P.underlying t=some (.map kt et)∧P.underlying kt=some .string:=by
 obtain⟨i0,d0,zv0,hty⟩:=bM ht;obtain⟨i1,d1,zv1,hty1⟩:=bM hk;have h1:=hty.d_;have h2:=hty1.d_;rw[hd]at h1;rw[hkd]at h2;refine⟨?_,?_⟩
 · rw[hty.under];congr 1;cases d0<;>simp[tyd]at h1;rw[h1.1,h1.2]
 · rw[hty1.under];congr 1;cases d1<;>simp[tyd]at h2;rfl
theorem aQ2 {kt:TypeId}(hkt:P.underlying kt=some .string){D:MD}{hf:List UInt8→Option Value}{O:Nat→Prop}{es:Array MapEntry}
  (h4: ∀x∈es.toList,∃k m,dA D k=some m∧x.key=fM k∧k.length≤maxLen∧RepMV w O (hf k) m x.val) (h5: ∀k m,dA D k=some m→m.there=true→ ∃x∈es.toList,x.key=fM k) {s:List UInt8} (hs:s.length≤maxLen):
  (Instr.checkKey es.isEmpty 10000 kt (fM s)).run P w= .ok () w∧(Instr.checkKey false 10000 kt (fM s)).run P w= .ok () w∧(Instr.keyThatStays (fM s) (fM s)).run P w= .ok (fM s) w∧
  (((Instr.findKey kt (fM s) es.toList).run P w= .ok none w∧(∀x∈es.toList,x.key≠fM s)∧ ∀m,dA D s=some m→m.there=false)∨
   ∃j en m,(Instr.findKey kt (fM s) es.toList).run P w= .ok (some (j,en.val)) w∧es.toList[j]? =some en∧en.key=fM s∧dA D s=some m∧RepMV w O (hf s) m en.val):=by
 obtain⟨lk,hlk⟩:=xW (P:=P) hkt hs;have K:=Maps.string_keyed (P:=P) hkt;refine⟨K.check w _ hlk,K.check w _ hlk,K.stays w hlk,?_⟩;rcases K.find w hlk es.toList (fun x hx=>by
  obtain⟨k,m,_,e2,e3,_⟩:=h4 x hx;rw[e2];exact xW hkt e3)with⟨h1,h2⟩|⟨j,en,h1,h2,h3⟩
 ·
  refine .inl ⟨h1,h2,fun m hm=>?_⟩;cases ht:m.there with
  |false=>rfl
  |true=>
   obtain⟨x,hx,e⟩:=h5 s m hm ht;exact absurd e (h2 x hx)
 · obtain⟨k,m,e1,e2,e3,e4⟩:=h4 en (V7 h2);rw[h3]at e2;cases aO9 e2;exact .inr ⟨j,en,m,h1,h2,h3,e1,e4⟩
theorem aJ5 (h:RepA' c M fr ob a w ρ){t:TypeId}{m k:Operand}{K:HV→Prop}(hl:hlookup P t (ev fr m) (ev fr k) ob K):
  ∃u y,K u∧(Instr.lookup t (a.eval m) (a.eval k) false).run P w= .ok y w∧RepV w ρ (Owned ρ c.X) u y∧u.men M:=by
 unfold hlookup at hl;rw[aD]at hl;obtain⟨ti,ht,hl⟩:=hl;split at hl
 ·
  rename_i kt et hdt;rw[aD]at hl;obtain⟨tk,htk,hl⟩:=hl;rw[aD]at hl;obtain⟨te,hte,hl⟩:=hl;split at hl
  ·
   rename_i id s hkd hm hk;obtain⟨hs,hl⟩:=hl;split at hl
   ·
    rename_i e sz D ho;obtain⟨hut,hkt⟩:=cP2 ht hdt htk hkd;obtain⟨b,hf,hρ,hme,hM⟩:=bG1 h hm ho;obtain⟨es,clock,hb,hst,h4,h5⟩:=hM.blk;obtain⟨c1,c2,c3,hfind⟩:=aQ2 (P:=P) (w:=w) hkt h4 h5 hs;obtain⟨ie,de,zve,htye⟩:=bM hte;have hzv:(zeroValue et).run P w= .ok zve w:=by simp[zeroValue,typeInfo,htye.info,htye.zero]
    have hkey:a.eval k=fM s:=nF h hk;have hmid:=h.evm m;rw[hm]at hmid;have run0:(Instr.findKey kt (fM s) es.toList).run P w= .ok none w→(Instr.lookup t (a.eval m) (a.eval k) false).run P w= .ok zve w:=fun hr=>by
     rw[hme,hkey];simp[Instr.lookup,D3 hut,N5 hb,c1,hr,hzv,Result.andThen]
    have run1: ∀j (en:MapEntry),(Instr.findKey kt (fM s) es.toList).run P w= .ok (some (j,en.val)) w→(Instr.lookup t (a.eval m) (a.eval k) false).run P w= .ok en.val w:=fun j en hr=>by
     rw[hme,hkey];simp[Instr.lookup,D3 hut,N5 hb,c1,hr,Result.andThen]
    split at hl
    ·
     rename_i el hde hdz;obtain⟨hrow,hK⟩:=hl;have hnl:dA D s≠some .lent:=by intro e;rw[e]at hrow;simp[xV]at hrow
     obtain⟨hd,hh,hlen,hone⟩:=cQ9 hM hnl;rcases hfind with⟨hr,_,hno⟩|⟨j,en,mv,hr,_,_,hget,hmv⟩
     ·
      have hnone:dA D s=none:=by
       cases hg:dA D s with
       |none=>rfl
       |some mv=>
        have:=hno mv hg;rw[hg]at hrow;cases mv<;>simp[xV,MV.there]at hrow this
      have hnil:=hM.nil s hd hh hnone;refine⟨_,_,hK,run0 hr,?_,by simpa[HV.men]using hmid⟩;have hz0:zve= .slice none 0 0:=by
       have hz:=htye.rep w (fun _=>False);have hag:=htye.agg;rw[hdz]at hz hag;simp only[RepC]at hz;rw[cells_single (by rw[hag];rfl)]at hz;simpa using hz
      rw[hz0,←hnil];exact uK hρ hh hlen hone
     ·
      refine⟨_,_,hK,run1 j en hr,?_,by simpa[HV.men]using hmid⟩;rw[hget]at hrow;cases mv with
      |row l=>
       simp only[RepMV]at hmv;rw[hmv]at hh;cases hh;exact uK hρ hmv hlen hone
      |_=>simp[xV]at hrow
    ·
     obtain⟨hval,hK⟩:=hl;rcases hfind with⟨hr,_,hno⟩|⟨j,en,mv,hr,_,_,hget,hmv⟩
     ·
      have hnone:dA D s=none:=by
       cases hg:dA D s with
       |none=>rfl
       |some mv=>
        have:=hno mv hg;rw[hg]at hval;cases mv<;>simp[oH,MV.there]at hval this
      refine⟨_,_,hK,run0 hr,?_,by simp[HV.men]⟩;rw[hnone];exact⟨by simp only[RepH,aC6];exact htye.rep w _,by simp only[aC6,HV.isAgg];rw[htye.agg]⟩
     ·
      refine⟨_,_,hK,run1 j en hr,?_,by simp[HV.men]⟩;rw[hget]at hval⊢;cases mv with
      |val cv=>
       obtain⟨cs,h1,h2⟩:=hmv;rw[h2];exact gE (v:= .c cv) (by simp only[RepH];exact h1) rfl (by simp[HV.sto])
      |_=>simp[oH]at hval
   · exact hl.elim
  · exact hl.elim
 · exact hl.elim
theorem cR0 {t kt et e:TypeId}{sz b:Nat}{D:MD}{hf:List UInt8→Option Value}{O:Nat→Prop}(hut:P.underlying t=some (.map kt et))(hkt:P.underlying kt=some .string)(hM:RepM w O e sz D b hf){s:List UInt8}(hs:s.length≤maxLen)
  {mv:MV} (hth:mv.there=true) (hrow:gC (some mv)=gC (dA D s)) (hnl:dA D s≠some .lent) (hml:mv≠ .lent) {val:Value} (hv:RepMV w O (hf s) mv val):
  ∃w',(Instr.mapUpdate t (.map (some b)) (fM s) val).run P w= .ok () w'∧(∀b',b'≠b→w'.heap[b']? =w.heap[b']?)∧w'.heap.size=w.heap.size∧w'.os=w.os∧w'.tape=w.tape∧w'.output=w.output∧
   ∀O',Stay w O w' O'→RepM w' O' e sz (lJ D s mv) b hf:=by
 obtain⟨es,clock,hb,hst,h4,h5⟩:=hM.blk;obtain⟨c1,c2,c3,hfind⟩:=aQ2 (P:=P) (w:=w) hkt h4 h5 hs;have fin: ∀es' clock',(Instr.mapUpdate t (.map (some b)) (fM s) val).run P w= .ok () (setBlock w b (.map es' clock'))→Go.MapKept.Stamped es' clock'→
   (∀x'∈es'.toList,(x'∈es.toList∧x'.key≠fM s)∨(x'.key=fM s∧x'.val=val))→(∀x∈es.toList,x.key≠fM s→x∈es'.toList)→(∃x∈es'.toList,x.key=fM s)→
   ∃w',(Instr.mapUpdate t (.map (some b)) (fM s) val).run P w= .ok () w'∧(∀b',b'≠b→w'.heap[b']? =w.heap[b']?)∧w'.heap.size=w.heap.size∧w'.os=w.os∧w'.tape=w.tape∧w'.output=w.output∧
   ∀O',Stay w O w' O'→RepM w' O' e sz (lJ D s mv) b hf:=by
  intro es' clock' hrun hst' hwho hkeep hthere;refine⟨_,hrun,fun b' hb'=>heap_setBlock_other hb _ hb',by simp[setBlock],rfl,rfl,rfl,fun O' hS=>⟨⟨es',clock',heap_setBlock_same hb _,hst',fun x hx=>?_,fun k m hg ht=>?_⟩,fun k hd hk=>?_,fun k=>?_,fun k hd hk hn=>?_,hM.apart⟩⟩
  ·
   rcases hwho x hx with⟨h1,h2⟩|⟨h1,h2⟩
   · obtain⟨k,m,e1,e2,e3,e4⟩:=h4 x h1;have hne:k≠s:=fun e=>h2 (by rw[e2,e]);exact⟨k,m,by rw[dF _ _ hne];exact e1,e2,e3,e4.stay hS⟩
   · exact⟨s,mv,cZ _ _ _,h1,hs,by rw[h2];exact hv.stay hS⟩
  ·
   by_cases hks:k=s
   · subst hks;exact hthere
   · rw[dF _ _ hks]at hg;obtain⟨x,hx,ek⟩:=h5 k m hg ht;exact⟨x,hkeep x hx (fun e=>hks (aO9 (ek.symm.trans e))),ek⟩
  ·
   obtain⟨g1,xs,g2,g3,g4⟩:=hM.row k hd hk;have hro:gC (dA (lJ D s mv) k)=gC (dA D k):=by
    by_cases hks:k=s
    · subst hks;rw[cZ];exact hrow
    · rw[dF _ _ hks]
   rw[hro];exact⟨g1,xs,g2.stay hS,g3,kF g4 (fun g hg=>heap_setBlock_other hb _ (fun e=>g1 (by rw[hg,e])))⟩
  ·
   by_cases hks:k=s
   ·
    subst hks;rw[cZ,hM.lent];constructor
    · intro h;exact absurd h hnl
    · intro h;cases h;exact absurd rfl hml
   · rw[dF _ _ hks];exact hM.lent k
  ·
   by_cases hks:k=s
   · subst hks;rw[cZ]at hn;cases hn
   · rw[dF _ _ hks]at hn;exact hM.nil k hd hk hn
 rcases hfind with⟨hr,h2,hno⟩|⟨j,e0,m,hr,h2,h3,hget,hmv⟩
 ·
  refine fin (es.push ⟨fM s,val,clock⟩) (clock+1) ?_ (Go.MapKept.stamped_push hst h2) (fun x hx=>?_) (fun x hx _=>by simp only[BM,F4];exact .inl hx) ⟨⟨fM s,val,clock⟩,by simp,rfl⟩
  · simp[Instr.mapUpdate,D3 hut,N5 hb,c2,hr,Z8 _ hb,Result.andThen,setBlock]
  ·
   simp only[BM,F4,G0]at hx;rcases hx with hx|rfl
   · exact .inl ⟨hx,h2 x hx⟩
   · exact .inr ⟨rfl,rfl⟩
 ·
  have hj:es[j]? =some e0:=by simpa using h2
  have hjl:j<es.toList.length:=(I2.1 h2).1;have hlist:(es.modify j (fun e'=>{e' with key:=fM s,val:=val})).toList=es.toList.set j {e0 with key:=fM s,val:=val}:=by rw[Array.toList_modify,ChangeMaps.modify_eq_set _ _ _ _ h2]
  have hkeyf: ∀e',es[j]? =some e'→({e' with key:=fM s,val:=val}:MapEntry).key=e'.key:=fun e' he'=>by rw[hj]at he';cases he';exact h3.symm
  have hnd:=hst.2.2;have uniq: ∀i (x:MapEntry),es.toList[i]? =some x→x.key=fM s→i=j:=by
   intro i x hi hk;have hil:i<es.toList.length:=(I2.1 hi).1;have a1:(es.toList.map (·.key))[i]? =some (fM s):=by simp[hi,hk]
   have a2:(es.toList.map (·.key))[j]? =some (fM s):=by simp[h2,h3]
   rw[List.nodup_iff_pairwise_ne]at hnd;by_cases hlt:i<j
   · have:=(X7.1 hnd) i j (by simpa using hil) (by simpa using hjl) hlt;rw[B5 (by simpa using hil)]at a1;rw[B5 (by simpa using hjl)]at a2;exact absurd (P6 a1|>.trans (P6 a2).symm) this
   ·
    by_cases hgt:j<i
    · have:=(X7.1 hnd) j i (by simpa using hjl) (by simpa using hil) hgt;rw[B5 (by simpa using hil)]at a1;rw[B5 (by simpa using hjl)]at a2;exact absurd (P6 a2|>.trans (P6 a1).symm) this
    · omega
  refine fin (es.modify j (fun e'=>{e' with key:=fM s,val:=val})) clock ?_ (Go.MapKept.stamped_modify hst _ _ (fun _ _=>rfl) (fun e' _ he'=>hkeyf e' he')) (fun x hx=>?_) (fun x hx hne=>?_) ⟨_,by rw[hlist];exact List.mem_set hjl _,rfl⟩
  · simp[Instr.mapUpdate,D3 hut,N5 hb,c2,hr,hj,h3,c3,Z8 _ hb,Result.andThen,setBlock]
  ·
   rw[hlist]at hx;obtain⟨i,hi,ex⟩:=L4 hx;rw[List.getElem_set]at ex;split at ex
   · exact .inr ⟨by rw[←ex],by rw[←ex]⟩
   ·
    rename_i hne;have hi':i<es.toList.length:=by simpa using hi
    refine .inl ⟨ex▸C0 hi',fun hk=>hne (uniq i x (by rw[B5 hi',ex]) hk).symm⟩
  ·
   rw[hlist];obtain⟨i,hi,ex⟩:=L4 hx;have hij:j≠i:=by
    intro e;subst e;rw[B5 hi,ex]at h2;cases h2;exact hne h3
   have:(es.toList.set j {e0 with key:=fM s,val:=val})[i]? =some x:=by
    rw[List.getElem?_set_ne hij,B5 hi,ex]
   exact V7 this
theorem wV (h:RepA' c M fr ob a w ρ){t:TypeId}{m k v:Operand}{K:HV→Ob→Prop}(hl:hmapUpdate P t (ev fr m) (ev fr k) (ev fr v) ob K):
  ∃ob' w',K .junk ob'∧(Instr.mapUpdate t (a.eval m) (a.eval k) (a.eval v)).run P w= .ok () w'∧ ∀(d:Option Nat) (z:Value),(∀k,d=some k→k<c.n)→RepA' c M (updo fr d .junk) ob' (a.put d z) w' ρ:=by
 unfold hmapUpdate at hl;rw[aD]at hl;obtain⟨ti,ht,hl⟩:=hl;split at hl
 ·
  rename_i kt et hdt;rw[aD]at hl;obtain⟨tk,htk,hl⟩:=hl;rw[aD]at hl;obtain⟨te,hte,hl⟩:=hl;split at hl
  ·
   rename_i id s hkd hm hk;obtain⟨hs,hl⟩:=hl;split at hl
   ·
    rename_i e sz D ho;obtain⟨hut,hkt⟩:=cP2 ht hdt htk hkd;obtain⟨b,hf,hρ,hme,hM⟩:=bG1 h hm ho;have hkey:a.eval k=fM s:=nF h hk;rw[hme,hkey];have go: ∀mv:MV,mv.there=true→gC (some mv)=gC (dA D s)→dA D s≠some .lent→mv≠ .lent→RepMV w (Owned ρ c.X) (hf s) mv (a.eval v)→K .junk (upd ob id (some (.mp e sz (lJ D s mv))))→
      ∃ob' w',K .junk ob'∧(Instr.mapUpdate t (.map (some b)) (fM s) (a.eval v)).run P w= .ok () w'∧ ∀(d:Option Nat) (z:Value),(∀k,d=some k→k<c.n)→RepA' c M (updo fr d .junk) ob' (a.put d z) w' ρ:=by
     intro mv g1 g2 g3 g4 g5 hK;obtain⟨w',hrun,q1,q2,q3,q4,q5,q6⟩:=cR0 (P:=P) hut hkt hM hs g1 g2 g3 g4 g5;exact⟨_,w',hK,hrun,fun d z hd=>h.setObj (b0:=b) hρ (.inl rfl) (h.mo id _ ho).1 q1 q2 q3 q4 q5 (fun hst=>⟨b,hf,hρ,q6 _ hst⟩) trivial (fun _=> .inl rfl) (by simp[HV.men]) hd⟩
    split at hl
    ·
     rename_i el id2 s2 n hde hvv;obtain⟨⟨rfl,rfl,hn,hrow⟩,hK⟩:=hl;have hnl:dA D s2≠some .lent:=by intro e;rw[e]at hrow;simp[aJ3]at hrow
     obtain⟨hd,hh,hlen,hone⟩:=cQ9 hM hnl;refine go _ rfl rfl hnl (by simp) ?_ hK;simp only[RepMV];rw[hh,bG2 h hvv hρ hh (by rw[hlen,hn])]
    ·
     rename_i cv _ _ hvv;obtain⟨hval,hK⟩:=hl;have hnl:dA D s≠some .lent:=by intro e;rw[e]at hval;simp[oH]at hval
     refine go _ rfl ?_ hnl (by simp) ?_ hK
     ·
      cases hg:dA D s with
      |none=>rfl
      |some mv=>rw[hg]at hval;cases mv<;>simp[oH]at hval;rfl
     · have hr:=h.ev v (by rw[hvv];simp);rw[hvv]at hr;refine⟨_,by simpa only[RepH]using hr.1,?_⟩;exact(lN _ _ hr.2.symm).symm
    · exact hl.elim
   · exact hl.elim
  · exact hl.elim
 · exact hl.elim
theorem aA4 (h:RepA' c M fr ob a w ρ){nid:Nat}(hn: ¬M nid)(hM: ∀i,M i→M' i)(hM':M' nid){t:TypeId}{K:HV→Ob→Prop}(hl:hmakeMap P t nid ob K)(d:Option Nat)(hd: ∀k,d=some k→k<c.n):
  ∃v ob' y w' ρ',K v ob'∧(Instr.makeMap t none).run P w= .ok y w'∧RepA' c M' (updo fr d v) ob' (a.put d y) w' ρ':=by
 unfold hmakeMap at hl;rw[aD]at hl;obtain⟨ti,ht,hl⟩:=hl;have go: ∀e sz,K (.mapr nid) (upd ob nid (some (.mp e sz [])))→ ∃v ob' y w' ρ',K v ob'∧(Instr.makeMap t none).run P w= .ok y w'∧RepA' c M' (updo fr d v) ob' (a.put d y) w' ρ':=by
  intro e sz hK;refine⟨_,_,.map (some w.heap.size),w.alloc (.map #[] 0),_,hK,rfl,h.newObj (w1:=w) (L:= .mp w.heap.size (fun _=>some (.slice none 0 0))) hn hM hM' rfl rfl rfl rfl ?_ (fun hst=>?_) trivial (.inr ?_) (by simpa[HV.men]using hM') hd⟩
  ·
   rintro b (hb|⟨k,v,e1,e2⟩)
   · exact hb
   · cases e1;simp[Value.ownBlock]at e2
  · refine⟨_,_,aU _ _ _,⟨⟨#[],0,O5 w _,by simp[MapKept.Stamped],by simp,by simp[dA]⟩,fun k v hk=>?_,fun k=>by simp[dA],fun k v hk _=>by cases hk;rfl,fun k k' v v' g e1 _ e3 _=>by cases e1;simp[Value.ownBlock]at e3⟩⟩;cases hk;exact⟨by simp[Value.ownBlock],[],by simp[dA,gC,RepL],by simp[dA,gC],by simp only[dA,gC];exact Y4 _ 0 e sz⟩
  · refine dR ?_ rfl rfl;simp only[RepH];refine⟨_,rfl,by simp[Value.oneCell'],fun b hf hρ=>?_⟩;rw[aU]at hρ;cases hρ;rfl
 split at hl
 ·
  rw[aD]at hl;obtain⟨te,hte,hl⟩:=hl;split at hl
  · rw[aD]at hl;obtain⟨t2,ht2,hl⟩:=hl;exact go _ _ hl
  · exact go _ _ hl
 · exact hl.elim
theorem aA5 (h:RepA' c M fr ob a w ρ){nid:Nat}(hn: ¬M nid)(hM: ∀i,M i→M' i)(hM':M' nid){t ty:TypeId}{s x:Operand}{K:HV→Ob→Prop}
  (hl:happend2 P t (ev fr s) (ev fr x) nid ob K) (d:Option Nat) (hd: ∀k,d=some k→k<c.n):
  ∃v ob' y w' ρ',K v ob'∧(Builtin.append_ #[t,t] ty #[a.eval s,a.eval x]).run P w= .ok y w'∧RepA' c M' (updo fr d v) ob' (a.put d y) w' ρ':=by
 unfold happend2 at hl;split at hl
 ·
  rename_i id k n hs;rw[aD]at hl;obtain⟨ti,ht,hl⟩:=hl;obtain⟨i0,d0,zv0,hty⟩:=bM ht;split at hl
  ·
   rename_i e hde;rw[aD]at hl;obtain⟨te,hte,hl⟩:=hl;obtain⟨ie,de,zve,htye⟩:=bM hte;rw[aD]at hl;obtain⟨l2,hx,hc2,hl⟩:=hl;have hdd:=hty.d_;rw[hde]at hdd;have hu:P.underlying t=some (.slice e):=by
    rw[hty.under];congr 1;cases d0<;>simp[tyd]at hdd;rw[hdd]
   obtain⟨ad,m,cp,news,he,hm,hrl,hnone,hcells,_,_⟩:=jI h hx;have hnl:news.length=m*ie.size:=by rw[eN hrl hc2,hm,htye.size]
   have hzs:zve.cells.size=ie.size:=by rw[htye.zsize,htye.size]
   split at hl
   ·
    rename_i e' sz D ho;obtain⟨⟨hrow,hnn,rfl,rfl⟩,hb,hmx,hK⟩:=hl;have hlent:dA D k≠some .lent:=by intro e;rw[e]at hrow;simp[aJ3]at hrow
    obtain⟨b,hf,hρ,hRM⟩:=h.s.objs id _ ho;obtain⟨hdv,hfk,hlen,hone⟩:=cQ9 hRM hlent;obtain⟨hnb,xs,hl1,hcs,how⟩:=hRM.row k hdv hfk;have hse:a.eval s=hdv:=bG2 h hs hρ hfk (by rw[hlen,hnn]);obtain⟨es,clock,hbk,hst0,h4,h5⟩:=hRM.blk;have hbs:b<w.heap.size:=(G6.1 hbk).1;rw[←htye.size]at how;generalize hL:gC (dA D k)=l at*;obtain⟨v',w',hrun,how',hgr,hblk,hm0⟩:=kH (P:=P) (ty:=ty) hu htye.info htye.zero hzs hdv l.length xs how ad m cp news hnl hnone hcells (jS hrl) (by rw[hm];exact hmx) (by rw[hm,htye.bytes];exact hb);have hlv:Hl.hlen v'=l.length+m:=ownsRow_size how';have hone':v'.oneCell'=true:=by rcases how'.2 with⟨rfl,_⟩|⟨g,cap,cur,rfl,_⟩<;>simp[Value.oneCell']
    let hf':List UInt8→Option Value:=fun k'=>if k'=k then some v' else hf k'
    let ρ':Env:=upd ρ id (some (.mp b hf'))
    have hf'k:hf' k=some v':=B6 rfl;have hf'o: ∀k',k'≠k→hf' k'=hf k':=fun k' hk=>A7 hk;have hmid:=(h.mo id _ ho).1;have hv'b: ∀g,v'.ownBlock=some g→hdv.ownBlock=some g∨g=w.heap.size:=fun g hg=>by
     rcases hblk with e|e
     · exact .inl (by rw[←e];exact hg)
     · rw[e]at hg;cases hg;exact .inr rfl
    have hown: ∀b',Own ρ' b'→Own ρ b'∨w.heap.size≤b':=by
     rintro b' ⟨i,L,h1,h2⟩;by_cases ei:i=id
     ·
      subst ei;simp only[ρ',aU]at h1;cases h1;rcases h2 with rfl|⟨k',v2,e1,e2⟩
      · exact .inl ⟨i,_,hρ,.inl rfl⟩
      ·
       by_cases hk:k'=k
       ·
        subst hk;rw[hf'k]at e1;cases e1;rcases hv'b _ e2 with h3|h3
        · exact .inl ⟨i,_,hρ,.inr ⟨k',hdv,hfk,h3⟩⟩
        · exact .inr (by omega)
       · rw[hf'o _ hk]at e1;exact .inl ⟨i,_,hρ,.inr ⟨k',v2,e1,e2⟩⟩
     · simp only[ρ',bJ _ _ ei]at h1;exact .inl ⟨i,L,h1,h2⟩
    have hs2:Stay2 w (Own ρ) w' (Own ρ'):=
     ⟨fun b' hb' hO=>hgr.block b' hb' (fun e=>hO ⟨id,_,hρ,.inr ⟨k,hdv,hfk,e.symm⟩⟩),hown,hgr.size,hgr.os,hgr.tape,hgr.output⟩
    have hmv:Moves M ρ ρ':=by
     intro i L' hmi h1;by_cases ei:i=id
     ·
      subst ei;simp only[ρ',aU]at h1;cases h1;refine⟨_,hρ,.inr (.inr ⟨_,_,_,rfl,rfl,fun k' h' hk'=>?_⟩)⟩;by_cases hk:k'=k
      ·
       subst hk;rw[hf'k]at hk';cases hk';refine⟨hdv,hfk,?_⟩;by_cases hm':m=0
       · exact .inl (hm0 hm').1.symm
       · exact .inr (by omega)
      · rw[hf'o _ hk]at hk';exact⟨h',hk',.inl rfl⟩
     · simp only[ρ',bJ _ _ ei]at h1;exact⟨L',h1,.inl rfl⟩
    have hst:=hs2.stay c.X;have keyb: ∀i L2 b',i≠id→ρ i=some L2→L2.has b'→(Loc.mp b hf').has b'→False:=by
     rintro i L2 b' hne h2 h3 (h4|⟨k',v2,e1,e2⟩)
     · exact hne (h.s.apart i id _ _ b' h2 hρ h3 (.inl h4))
     ·
      by_cases hk:k'=k
      ·
       subst hk;rw[hf'k]at e1;cases e1;rcases hv'b _ e2 with h5|h5
       · exact hne (h.s.apart i id _ _ b' h2 hρ h3 (.inr ⟨k',hdv,hfk,h5⟩))
       · have:=Owned.lt h.s h2 h3;omega
      · rw[hf'o _ hk]at e1;exact hne (h.s.apart i id _ _ b' h2 hρ h3 (.inr ⟨k',v2,e1,e2⟩))
    have hRM':RepM w' (Owned ρ' c.X) e' te.size (lJ D k (.pend (l++l2))) b hf':=by
     have hbk':w'.heap[b]? =w.heap[b]? :=hgr.block b hbs (fun e=>hnb e.symm);refine⟨⟨es,clock,by rw[hbk'];exact hbk,hst0,fun y hy=>?_,fun k' m' hg ht'=>?_⟩,fun k' h' hk'=>?_,fun k'=>?_,fun k' h' hk' hn'=>?_,fun k1 k2 v1 v2 g e1 e2 e3 e4=>?_⟩
     ·
      obtain⟨k',m',e1,e2,e3,e4⟩:=h4 y hy;by_cases hk:k'=k
      · subst hk;exact⟨k',_,cZ _ _ _,e2,e3,trivial⟩
      · exact⟨k',m',by rw[dF _ _ hk];exact e1,e2,e3,by rw[hf'o _ hk];exact e4.stay hst⟩
     ·
      by_cases hk:k'=k
      · subst hk;rw[cZ]at hg;cases hg;simp[MV.there]at ht'
      · rw[dF _ _ hk]at hg;exact h5 k' m' hg ht'
     ·
      by_cases hk:k'=k
      ·
       subst hk;rw[hf'k]at hk';cases hk';refine⟨fun e=>?_,xs++news,?_,?_,?_⟩
       ·
        rcases hv'b _ e with h3|h3
        · exact hnb h3
        · omega
       · rw[cZ];exact eQ.2 ⟨xs,news,rfl,hl1.stay hst,hrl.stay hst⟩
       ·
        rw[cZ];intro v hv;rcases F4.1 hv with hv|hv
        · exact hcs v hv
        · exact hc2 v hv
       · rw[cZ];simp only[gC];rw[A3,←hm,←htye.size];exact how'
      · rw[hf'o _ hk]at hk';rw[dF _ _ hk];obtain⟨q1,ys,q2,q3,q4⟩:=hRM.row k' h' hk';refine⟨q1,ys,q2.stay hst,q3,kF q4 (fun g hg=>hgr.block g (q4.lt g hg).2 (fun e=>hk (hRM.apart k' k h' hdv g hk' hfk hg e.symm)))⟩
     ·
      by_cases hk:k'=k
      · subst hk;rw[hf'k,cZ];simp
      · rw[hf'o _ hk,dF _ _ hk];exact hRM.lent k'
     ·
      by_cases hk:k'=k
      · subst hk;rw[cZ]at hn';cases hn'
      · rw[hf'o _ hk]at hk';rw[dF _ _ hk]at hn';exact hRM.nil k' h' hk' hn'
     ·
      by_cases hk1:k1=k<;>by_cases hk2:k2=k
      · rw[hk1,hk2]
      ·
       subst hk1;rw[hf'k]at e1;cases e1;rw[hf'o _ hk2]at e2;rcases hv'b _ e3 with h3|h3
       · exact hRM.apart _ _ _ _ g hfk e2 h3 e4
       · obtain⟨_,_,_,_,q4⟩:=hRM.row k2 v2 e2;have:=(q4.lt g e4).2;omega
      ·
       subst hk2;rw[hf'k]at e2;cases e2;rw[hf'o _ hk1]at e1;rcases hv'b _ e4 with h3|h3
       · exact hRM.apart _ _ _ _ g e1 hfk e3 h3
       · obtain⟨_,_,_,_,q4⟩:=hRM.row k1 v1 e1;have:=(q4.lt g e3).2;omega
      · rw[hf'o _ hk1]at e1;rw[hf'o _ hk2]at e2;exact hRM.apart _ _ _ _ g e1 e2 e3 e4
    refine⟨_,_,_,_,ρ',hK,by rw[hse,he];exact hrun,h.step hM hs2 hmv ⟨fun i o' ho'=>?_,fun i hi=>?_,fun i i' L L' b' h1 h2 h3 h4=>?_,fun i L b' h1 h2=>?_⟩ (.inr ?_) (by simpa[HV.men]using hM _ hmid) (fun i o' ho'=>?_) hd⟩
    ·
     by_cases ei:i=id
     · subst ei;rw[aU]at ho';cases ho';exact⟨b,hf',aU _ _ _,hRM'⟩
     · rw[bJ _ _ ei]at ho';refine RepO.stay hst hmv (h.mo i o' ho').2 (bJ _ _ ei) (fun L b' h1 h2=>?_) (h.s.objs i o' ho');exact hgr.block b' (Owned.lt h.s h1 h2) (fun e=>ei (h.s.apart i id _ _ b' h1 hρ h2 (.inr ⟨k,hdv,hfk,e.symm⟩)))
    ·
     by_cases ei:i=id
     · subst ei;rw[aU]at hi;cases hi
     · rw[bJ _ _ ei]at hi;simp only[ρ',bJ _ _ ei];exact h.s.none i hi
    ·
     by_cases e1:i=id<;>by_cases e2:i'=id
     · rw[e1,e2]
     · subst e1;simp only[ρ',aU]at h1;cases h1;simp only[ρ',bJ _ _ e2]at h2;exact(keyb i' L' b' e2 h2 h4 h3).elim
     · subst e2;simp only[ρ',aU]at h2;cases h2;simp only[ρ',bJ _ _ e1]at h1;exact(keyb i L b' e1 h1 h3 h4).elim
     · simp only[ρ',bJ _ _ e1]at h1;simp only[ρ',bJ _ _ e2]at h2;exact h.s.apart i i' L L' b' h1 h2 h3 h4
    ·
     by_cases e1:i=id
     ·
      subst e1;simp only[ρ',aU]at h1;cases h1;intro hX;rcases h2 with rfl|⟨k',v2,e1,e2⟩
      · exact h.s.xb i _ _ hρ (.inl rfl) hX
      ·
       by_cases hk:k'=k
       ·
        subst hk;rw[hf'k]at e1;cases e1;rcases hv'b _ e2 with h5|h5
        · exact h.s.xb i _ _ hρ (.inr ⟨k',hdv,hfk,h5⟩) hX
        · have:=G7 (h.xlt _ hX) h.base.size;omega
       · rw[hf'o _ hk]at e1;exact h.s.xb i _ _ hρ (.inr ⟨k',v2,e1,e2⟩) hX
     · simp only[ρ',bJ _ _ e1]at h1;exact h.s.xb i L b' h1 h2
    · exact uK (aU _ _ _) hf'k (by rw[hlv,A3,hm]) hone'
    ·
     by_cases ei:i=id
     · subst ei;rw[aU]at ho';cases ho';exact⟨hM _ hmid,trivial⟩
     ·
      rw[bJ _ _ ei]at ho';obtain⟨h1,h2⟩:=h.mo i o' ho';refine⟨hM _ h1,?_⟩;cases o' with
      |box t v=>exact HV.men_mono hM h2
      |row _ _ _=>trivial
      |mp _ _ _=>trivial
      |dead=>trivial
      |tab _=>trivial
      |hrow _ _ _=>exact HV.menL_mono hM h2
      |raw _ _=>trivial
      |it _ _ _ _=>exact hM _ h2
   · exact hl.elim
  · exact hl.elim
 · exact aJ1 h hn hM hM' hl d hd
end
end Go.Hl
namespace Go.Hl
open Go Go.Lib
def dG (b:UInt8):CV:= .int .u8 b.toNat
def iX :List CV→Option (List UInt8)
 |[]=>some []
 | .int .u8 n::l=>if 0≤n∧n<256 then(iX l).map (UInt8.ofNat n.toNat::·)else none
 |_::_=>none
theorem bytesC_map : ∀(bs:List UInt8),iX (bs.map dG)=some bs
 |[]=>rfl
 |b::bs=>by
  have h:=b.toNat_lt;simp only[D0,dG,iX];rw[B6 ⟨by omega,by omega⟩,show bs.map dG=bs.map fun b=>CV.int .u8 b.toNat from rfl]at*;have ih:=bytesC_map bs;rw[show bs.map dG=bs.map fun b=>CV.int .u8 b.toNat from rfl]at ih;simp_all
theorem aC7 : ∀{l:List CV} {bs:List UInt8},iX l=some bs→l=bs.map dG
 |[],bs,h=>by grind[iX,Option.some.injEq]
 | .int .u8 n::l,bs,h=>by
  simp only[iX]at h;split at h
  · rename_i hn;obtain⟨bs',h1,rfl⟩:=C8.1 h;have ih:=aC7 h1;grind[dG,UInt8.toNat_ofNat',Nat.mod_eq_of_lt]
  grind
 | .bool _::_,_,h| .str _::_,_,h| .agg _::_,_,h| .nils::_,_,h| .slc _::_,_,h| .rp _::_,_,h| .fn _::_,_,h| .nilp::_,_,h| .nilf::_,_,h| .nili::_,_,h| .nilm::_,_,h| .ifc _ _::_,_,h=>by simp[iX]at h
 | .int .i8 _::_,_,h| .int .i16 _::_,_,h| .int .i32 _::_,_,h| .int .i64 _::_,_,h| .int .u16 _::_,_,h| .int .u32 _::_,_,h| .int .u64 _::_,_,h=>by simp[iX]at h
theorem xX {w:World}{O:Nat→Prop}: ∀(bs:List UInt8),RepL w O (bs.map dG) (strCells ⟨bs.toArray⟩)
 |[]=>by simp[RepL,strCells]
 |b::bs=>by
  simp only[D0,RepL];refine⟨[.int .u8 b.toNat],strCells ⟨bs.toArray⟩,by simp[strCells],by simp[dG,RepC],xX bs⟩
section
variable {P:Program}{c:Ctx}{M M':Nat→Prop}{fr:Fr}{ob:Ob}{a:Act}{w w':World}{ρ:Env}
theorem xY {t u ty e:TypeId}{i:TypeInfo}(ht:P.underlying t=some (.slice e))(hu:P.underlying u=some .string)(hi:P.info? e=some i)(hz:i.zero=some (.int .u8 0))(hsize:i.size=1)(hby:i.bytes=1)
  (v:Value) (n:Nat) (xs:List Value) (hown:w.ownsRow 0 e 1 v n xs) (s:ByteArray) (hs0:0<s.size) (h63:n+s.size≤maxLen) (hbytes:n+s.size≤140737488355328):
  ∃v' w',(Builtin.append_ #[t,u] ty #[v,.string s]).run P w= .ok v' w'∧w'.ownsRow 0 e 1 v' (n+s.size) (xs++strCells s)∧w.grownBy w' v.ownBlock∧
   (v'.ownBlock=v.ownBlock∨v'.ownBlock=some w.heap.size):=by
 have hsmall:n+s.size≤9223372036854775807:=by simp only[maxLen]at h63;omega
 have hxl:xs.length=n:=by simpa using hown.1
 have hlen:(xs++strCells s).length=(n+s.size)*1:=by rw[A3,hxl,strCells_length,U1]
 rcases hown.2 with⟨rfl,rfl⟩|⟨g,cap,cur,rfl,hbg,hg,hnc,hcm,hcs,htake⟩
 ·
  have hx:xs=[]:=D5 hxl;subst hx;have hr:=run_append_nil_string (P:=P) w t u ty e i _ ht hu hi hz s hs0 (by omega) (by rw[hby];omega);have hge:=CE w s.size 0 e;have hcm:grownCap w s.size 0 e≤maxLen:=X1 w s.size 0 e (by omega);simp only[F3,I9];refine⟨_,_,hr,⟨by rw[strCells_length,U1],.inr ⟨w.heap.size,_,_,rfl,F9 _,O5 w.drew _,hge,hcm,?_,?_⟩⟩,⟨rfl,rfl,rfl,by simp,fun k hk _=>Y2 w.drew _ hk⟩,.inr (by simp[Value.ownBlock])⟩
  · have:s.data.size=s.size:=rfl;simp only[Y3,Array.size_map,AH,Value.cells,I6,M2,this];omega
  ·
   have h1:(s.data.map (fun b=>Value.int .u8 b.toNat)).toList=strCells s:=by simp[strCells]
   rw[AT,h1,U1,←strCells_length s];exact X2
 ·
  rw[U1]at hcs htake;by_cases hroom:n+s.size≤cap
  ·
   have hr:=run_append_room_string (P:=P) w t u ty e i ht hu hi hsize g n cap cur hg s hroom (by omega);refine⟨_,_,hr,⟨hlen,.inr ⟨g,cap,_,rfl,hbg,R7 w g cur _ e _ hg,hroom,hcm,?_,?_⟩⟩,⟨rfl,rfl,rfl,by simp,fun k _ hk=>Q6 w g k _ (fun e=>hk (by simp[Value.ownBlock,e]))⟩,.inl (by simp[Value.ownBlock])⟩
   · simp only[I6,A3,D9,B8,N6,strCells_length];omega
   · rw[htake,←hlen];exact X2
  ·
   have holds: ∀j u,xs[j]? =some u→w.cell? ((⟨g,0,none⟩:Addr).add j)=some u:=hown.cells (g:=g) rfl;have hr:=run_append_grow_string (P:=P) w t u ty e i _ ht hu hi hz ⟨g,0,none⟩ n cap xs (by rw[hsize];exact hown.1) holds s (by omega) (by omega) (growslice_fits (by omega) (by rw[hby];omega));have hge:=CE w (n+s.size) cap e;have hcm:grownCap w (n+s.size) cap e≤maxLen:=X1 w (n+s.size) cap e h63;refine⟨_,_,hr,⟨hlen,.inr ⟨w.heap.size,_,_,rfl,F9 _,O5 w.drew _,hge,hcm,?_,?_⟩⟩,⟨rfl,rfl,rfl,by simp,fun k hk _=>Y2 w.drew _ hk⟩,.inr (by simp[Value.ownBlock])⟩
   · simp only[Y3,I6,AH,strCells_length,hxl,Value.cells,I6,M2];omega
   · simp only[AT,E8];rw[←List.append_assoc,←hlen];exact X2
theorem aZ7 (h:RepA' c M fr ob a w ρ){src dst e:TypeId}(hs:P.underlying src=some (.slice e))(he:P.underlying e=some (.int .u8))(hd:P.underlying dst=some .string){x:Operand}{l:List CV}{bs:List UInt8}(hx:ev fr x= .c (.slc l))(hb:iX l=some bs):
  (convert src dst (a.eval x)).run P w= .ok (.string ⟨bs.toArray⟩) w:=by
 have hr:=h.ev x (by grind);rw[hx]at hr;have h1:=hr.single rfl;simp only[RepC,G4,L8]at h1;obtain⟨ad,cap,xs,sz,he1,h2,h3,h4,h5,h6⟩:=h1;have hl:=aC7 hb;subst hl;have hxs:xs=bs.map fun b=>Value.int .u8 b.toNat:=by
  have key: ∀(bs:List UInt8) (xs:List Value),RepL w (Owned ρ c.X) (bs.map dG) xs→xs=bs.map fun b=>Value.int .u8 b.toNat:=by
   intro bs;induction bs with
   |nil=>grind[RepL]
   |cons b bs ih=>
    intro xs h;simp only[D0,RepL,dG,RepC]at h;obtain⟨c1,c2,rfl,rfl,h7⟩:=h;rw[ih c2 h7];rfl
  exact key bs xs h2
 rw[he1,A2];cases ad with
 |none=>
  have hz:=h5 rfl;have hb0:bs=[]:=D5 (by grind);subst hb0;rw[run_convert_bytes_string w src dst e none _ cap hs he hd];rfl
 |some ad=>
  refine run_convert_bytes_back w src dst e ad cap bs hs he hd fun j hj=>?_;have:=(h6 ad rfl).1 j (.int .u8 bs[j].toNat) (by grind);exact this
def happends (P:Program)(t u:TypeId)(s x:HV)(ob:Ob)(K:HV→Ob→Prop):Prop:=
 hlift (aT P t) fun ti=>hlift (aT P u) fun tu=>match ti.d,tu.d,x with
  | .slice e,.string,.c (.str b)=>hlift (aT P e) fun te=>(te.size=1∧te.bytes=1∧te.z= .int .u8 0)∧
   match s with
   | .own id n=>match ob id with
    |some (.row e' sz l)=>(n=l.length∧e'=e∧sz=1)∧0<b.length∧l.length+b.length≤140737488355328∧K (.own id (l++b.map dG).length) (upd ob id (some (.row e sz (l++b.map dG))))
    |_=>False
   |_=>False
  |_,_,_=>False
theorem aA6 (h:RepA' c M fr ob a w ρ)(hM: ∀i,M i→M' i){t u ty:TypeId}{s x:Operand}{K:HV→Ob→Prop}
  (hl:happends P t u (ev fr s) (ev fr x) ob K) (d:Option Nat) (hd: ∀k,d=some k→k<c.n):
  ∃v ob' y w' ρ',K v ob'∧(Builtin.append_ #[t,u] ty #[a.eval s,a.eval x]).run P w= .ok y w'∧RepA' c M' (updo fr d v) ob' (a.put d y) w' ρ':=by
 unfold happends at hl;rw[aD]at hl;obtain⟨ti,ht,hl⟩:=hl;rw[aD]at hl;obtain⟨tu,htu,hl⟩:=hl;obtain⟨i0,d0,zv0,hty⟩:=bM ht;obtain⟨i1,d1,zv1,htyu⟩:=bM htu;split at hl
 ·
  rename_i e b hde hdu hx;rw[aD]at hl;obtain⟨te,hte,⟨h1,h2,h3⟩,hl⟩:=hl;obtain⟨ie,de,zve,htye⟩:=bM hte;have hdd:=hty.d_;rw[hde]at hdd;have hu:P.underlying t=some (.slice e):=by
   rw[hty.under];congr 1;cases d0<;>simp[tyd]at hdd;rw[hdd]
  have hdd2:=htyu.d_;rw[hdu]at hdd2;have hu2:P.underlying u=some .string:=by rw[htyu.under];congr 1;cases d1<;>simp[tyd]at hdd2;rfl
  have hz:ie.zero=some (.int .u8 0):=by
   have r:=htye.rep w (fun _=>False);have ag:=htye.agg;rw[h3]at r ag;rw[cells_single ag]at r;simp only[RepC,G4,L8]at r;rw[htye.zero,r]
  split at hl
  ·
   rename_i id n hs;split at hl
   ·
    rename_i e' sz l ho;obtain⟨⟨rfl,rfl,rfl⟩,hb0,hb,hK⟩:=hl;obtain⟨hdv,xs,hρ,hse,hlen,hl1,hcs,how⟩:=mM h hs ho rfl;have hbs:(⟨b.toArray⟩:ByteArray).size=b.length:=by simp[ByteArray.size]
    obtain⟨v',w',hrun,how',hgr,hblk⟩:=xY (P:=P) (ty:=ty) hu hu2 htye.info hz (by rw[htye.size,h1]) (by rw[htye.bytes,h2]) hdv l.length xs how ⟨b.toArray⟩ (by rw[hbs];exact hb0) (by rw[hbs];unfold maxLen;omega) (by rw[hbs];exact hb);rw[hbs]at how';have hlv:Hl.hlen v'=l.length+b.length:=ownsRow_size how';refine⟨_,_,_,_,upd ρ id (some (.hdr v')),hK,by rw[hse,nF h hx];exact hrun,?_⟩;refine h.rehdr hM (hM _ (h.mo id _ ho).1) (.inr ⟨hdv,hρ,by omega⟩) hgr.os hgr.tape hgr.output hgr.size (fun b hb' hne=>hgr.block b hb' (fun e=>hne _ hρ (by simpa[Loc.has]using e.symm)))
     (fun g hg=>?_) ?_ (by rw[hlv,A3,A2]) (fun hst=>?_) hd
    ·
     rcases hblk with hb2|hb2
     · exact .inr ⟨_,hρ,by simpa[Loc.has]using hb2.symm.trans hg⟩
     · rw[hb2]at hg;cases hg;exact .inl (F2 _)
    · rcases how'.2 with⟨rfl,_⟩|⟨g,cap,cur,rfl,_⟩<;>simp[Value.oneCell']
    ·
     refine⟨v',xs++strCells ⟨b.toArray⟩,aU _ _ _,eQ.2 ⟨xs,_,rfl,hl1.stay hst,xX b⟩,fun v hv=>?_,?_⟩
     ·
      rcases F4.1 hv with hv|hv
      · exact hcs v hv
      · obtain⟨y,_,rfl⟩:=L3.1 hv;rfl
     · rw[A3,A2];exact how'
   · exact hl.elim
  · exact hl.elim
 · exact hl.elim
end
end Go.Hl
