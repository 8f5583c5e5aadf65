/- HL: a string's bytes appended to a row of bytes; the bytes of a slice as a string. By an AI agent. -/
import Derived.Maps.Own
import Derived.Lib.AppendStr
import Derived.Laws.IdiomStrings
import Derived.Test.YthedbjfipmkpiaaGreatDoorHlJ
set_option linter.unusedSimpArgs false
set_option linter.unusedVariables false
set_option linter.defProp false
namespace Go.Hl
open Go
open Go.ChangeMaps (setBlock heap_setBlock_same heap_setBlock_other)
theorem nO (z:Array Value): ∀n,(Builtin.zeroCells z n).toList=(List.replicate n z.toList).flatten
 |0=>by simp[Builtin.zeroCells]
 |n+1=>by
  have I:=nO z n;simp only[Builtin.zeroCells,U1,Array.toList_range]at I⊢;rw[AN,List.range_add,C5,I,List.replicate_succ',List.flatten_append];congr 1;simp only[S9,List.flatten_nil,J7,Q4];apply V5;intro i;simp only[O1,N2];by_cases hi:i<z.size
  · rw[Y1 hi];simp only[I2,Function.comp,Nat.mul_add_mod_of_lt' hi,hi,O9];grind
  grind
where
 Nat.mul_add_mod_of_lt' {n i s:Nat} (h:i<s):(n*s+i)%s=i:=by
  rw[Nat.mul_comm,Nat.mul_add_mod,AG h]
theorem pO {w:World}{O:Nat→Prop}{z:CV}{cs:List Value}(h:RepC w O z cs): ∀n,RepL w O (List.replicate n z) (List.replicate n cs).flatten
 |0=>by simp[RepL]
 |n+1=>by simp only[Y2,S9,RepL];exact⟨cs,_,rfl,h,pO h n⟩
def hlo (lo:Option HV)(dflt:Int):Option Int:=match lo with|none=>some dflt|some (.c (.int _ i))=>some i|_=>none
def hslice2 (P:Program)(t:TypeId)(x:HV)(lo hi:Option HV)(ob:Ob)(K:HV→Prop):Prop:=
 match x with
 | .own id n=>hlift (aP P t) fun ti=>match ti.d,ob id with
  | .slice e,some (.row _ sz l)=>hlift (aP P e) fun te=>(n=l.length∧0<n∧sz=te.size)∧hlift (hlo lo 0) fun a=>hlift (hlo hi n) fun b=>(0≤a∧a≤b∧b≤(n:Int))∧K (.osl id n a.toNat sz b.toNat)
  |_,_=>False
 | .ptr id off=>hlift (aP P t) fun ti=>match ti.d,ob id with
  | .array m e,some (.box _ _)=>hlift (aP P e) fun te=>off=0∧hlift (hlo lo 0) fun a=>hlift (hlo hi m) fun b=>(0≤a∧a≤b∧b≤(m:Int))∧K (.osl id m a.toNat te.size b.toNat)
  |_,_=>False
 |x=>hslice P t x lo hi K
def dC3 (l u:List CV)(lo:Nat):List CV:=l.take lo++u++l.drop (lo+u.length)
def hcopy (P:Program)(t:TypeId)(d s:HV)(ob:Ob)(K:HV→Ob→Prop):Prop:=
 hlift (aP P t) fun ti=>match ti.d,d with
  | .slice e,.osl id n lo sz hi=>hlift (aP P e) fun te=>match ob id with
   |some (.box T (.c (.agg l)))=>hlift (hread s ob) fun u=>(n=l.length∧sz=te.size∧lo≤hi∧hi≤n∧(∀v∈l,v.cells=sz)∧ ∀v∈u,v.cells=sz)∧
     K (.c (.int .i64 ((min u.length (hi-lo):Nat):Int))) (upd ob id (some (.box T (.c (.agg (dC3 l (u.take (hi-lo)) lo))))))
   |_=>False
  |_,_=>False
def hclear (P:Program)(t:TypeId)(x:HV)(ob:Ob)(K:HV→Ob→Prop):Prop:=
 hlift (aP P t) fun ti=>match ti.d,x with
  | .slice e,.osl id n lo sz hi=>hlift (aP P e) fun te=>match ob id with
   |some (.row e' sz' l)=>(n=l.length∧0<n∧sz=sz'∧sz=te.size∧lo≤hi∧hi≤n)∧K .junk (upd ob id (some (.row e' sz' (l.take lo++List.replicate (hi-lo) te.z++l.drop hi))))
   |_=>False
  |_,_=>False
def aA6 :Option MV→Bool
 |none=>true
 |some (.row _)=>true
 |_=>false
def aR0 :Option MV→Bool
 |none=>true
 |some (.row _)=>true
 |some (.pend _)=>true
 |_=>false
def sT :Option MV→Bool
 |none=>true
 |some (.val _)=>true
 |_=>false
def bN3 (z:CV):Option MV→CV
 |some (.val v)=>v
 |_=>z
def hmakeMap (P:Program)(t:TypeId)(nid:Nat)(ob:Ob)(K:HV→Ob→Prop):Prop:=
 hlift (aP P t) fun ti=>match ti.d with
  | .map _ et=>hlift (aP P et) fun te=>match te.d with
   | .slice e=>hlift (aP P e) fun t2=>K (.mapr nid) (upd ob nid (some (.mp e t2.size [])))
   |_=>K (.mapr nid) (upd ob nid (some (.mp 0 0 [])))
  |_=>False
def hlookup (P:Program)(t:TypeId)(m k:HV)(ob:Ob)(K:HV→Prop):Prop:=
 hlift (aP P t) fun ti=>match ti.d with
  | .map kt et=>hlift (aP P kt) fun tk=>hlift (aP P et) fun te=>match tk.d,m,k with
   | .string,.mapr id,.c (.str s)=>s.length≤maxLen∧match ob id with
    |some (.mp _ _ D)=>match te.d,te.z with
     | .slice _,.nils=>aA6 (dM D s)=true∧K (.mrow id s (iB (dM D s)).length)
     |_,_=>sT (dM D s)=true∧K (.c (bN3 te.z (dM D s)))
    |_=>False
   |_,_,_=>False
  |_=>False
def hmapUpdate (P:Program)(t:TypeId)(m k v:HV)(ob:Ob)(K:HV→Ob→Prop):Prop:=
 hlift (aP P t) fun ti=>match ti.d with
  | .map kt et=>hlift (aP P kt) fun tk=>hlift (aP P et) fun te=>match tk.d,m,k with
   | .string,.mapr id,.c (.str s)=>s.length≤maxLen∧match ob id with
    |some (.mp e sz D)=>match te.d,v with
     | .slice _,.mrow id2 s2 n=>(id2=id∧s2=s∧n=(iB (dM D s)).length∧aR0 (dM D s)=true)∧K .junk (upd ob id (some (.mp e sz (sQ D s (.row (iB (dM D s)))))))
     |_,.c cv=>sT (dM D s)=true∧K .junk (upd ob id (some (.mp e sz (sQ D s (.val cv)))))
     |_,_=>False
    |_=>False
   |_,_,_=>False
  |_=>False
def happend2 (P:Program)(t:TypeId)(s x:HV)(nid:Nat)(ob:Ob)(K:HV→Ob→Prop):Prop:=
 match s with
 | .mrow id k n=>hlift (aP P t) fun ti=>match ti.d with
  | .slice e=>hlift (aP P e) fun te=>hlift (hread x ob) fun l2=>(∀v∈l2,v.cells=te.size)∧
   match ob id with
   |some (.mp e' sz D)=>(aR0 (dM D k)=true∧n=(iB (dM D k)).length∧e'=e∧sz=te.size)∧((iB (dM D k)).length+l2.length)*te.bytes≤140737488355328∧(iB (dM D k)).length+l2.length≤maxLen∧
     K (.mrow id k (iB (dM D k)++l2).length) (upd ob id (some (.mp e' sz (sQ D k (.pend (iB (dM D k)++l2))))))
   |_=>False
  |_=>False
 |s=>happend P t s x nid ob K
section
variable {P:Program}{c:Ctx}{M M':Nat→Prop}{fr:Fr}{ob:Ob}{a:Act}{w:World}{ρ:Env}
theorem nC (h:RepA' c M fr ob a w ρ){lo:Option Operand}{I l:Int}(hl:hlo (lo.map (ev fr)) I=some l):(lo=none∧l=I)∨ ∃x k,lo=some x∧a.eval x= .int k l:=
 iY h hl
theorem aR1 (h:RepA' c M fr ob a w ρ){t:TypeId}{x:Operand}{lo hi:Option Operand}{K:HV→Prop}(hl:hslice2 P t (ev fr x) (lo.map (ev fr)) (hi.map (ev fr)) ob K):
  ∃u y,K u∧(Instr.sliceAt t (a.eval x) (lo.map a.eval) (hi.map a.eval) none).run P w= .ok y w∧RepV w ρ (Owned ρ c.X) u y∧u.men M:=by
 unfold hslice2 at hl;split at hl
 ·
  rename_i id n hx;rw[aD]at hl;obtain⟨ti,ht,hl⟩:=hl;obtain⟨i0,d0,ai,aa⟩:=bF ht;have U:=aa.d_;split at hl
  ·
   rename_i e au sz l af ho;rw[af]at U;have hu:P.underlying t=some (.slice e):=by rw[aa.under];congr 1;cases d0<;>simp[tyd]at U;grind
   rw[aD]at hl;obtain⟨te,ab,⟨hn,ar,rfl⟩,hl⟩:=hl;obtain⟨ie,de,ao,J⟩:=bF ab;rw[aD]at hl;obtain⟨I,hlo,hl⟩:=hl;rw[aD]at hl;obtain⟨ag,ad,hb,hK⟩:=hl;obtain⟨hd,xs,h1,h2,h3,h4,h5,how⟩:=nN h hx ho hn;rcases how.2 with⟨rfl,hz⟩|⟨g,cap,cur,rfl,_,hg,ah,_⟩
   · omega
   have ak:=dH (P:=P) (w:=w) (a:=a) true n cap (nC h hlo) (nC h ad) hb ah;have aj:(sizeOf e).run P w= .ok te.size w:=by rw[bS J.info,J.size]
   have hid:=h.evm x;rw[hx]at hid;refine⟨_,.slice (if cap=I.toNat then some ⟨g,0,none⟩else(some (⟨g,0,none⟩:Addr)).map (·.add (I.toNat*te.size))) (ag.toNat-I.toNat) (cap-I.toNat),hK,?_,?_,by simpa[HV.men]using hid⟩
   · simp_all[Instr.sliceAt,G6,D4,E6,Instr.slice,I7]
   · refine dD ?_ rfl rfl;simp only[RepH];refine⟨_,rfl,by simp[Value.oneCell'],fun an hρ=>?_,fun b hρ=>by grind⟩;rw[h1]at hρ;cases hρ;refine⟨by grind,fun _ g' aq e'=>?_⟩;cases e';congr 1;by_cases hc:cap=I.toNat;all_goals simp_all[L8,I2,E8,Addr.add]
  grind
 ·
  rename_i id off hx;rw[aD]at hl;obtain⟨ti,ht,hl⟩:=hl;obtain⟨i0,d0,ai,aa⟩:=bF ht;have U:=aa.d_;split at hl
  ·
   rename_i m e T v af ho;rw[af]at U;have hu:P.underlying t=some (.array m e):=by rw[aa.under];congr 1;cases d0<;>simp[tyd]at U;grind
   rw[aD]at hl;obtain⟨te,ab,rfl,hl⟩:=hl;obtain⟨ie,de,ao,J⟩:=bF ab;rw[aD]at hl;obtain⟨I,hlo,hl⟩:=hl;rw[aD]at hl;obtain⟨ag,ad,hb,hK⟩:=hl;obtain⟨b,hρ,he⟩:=lR h hx (by rw[ho];rfl);have ak:=dH (P:=P) (w:=w) (a:=a) false m m (nC h hlo) (nC h ad) hb (E3 _);have aj:(sizeOf e).run P w= .ok te.size w:=by rw[bS J.info,J.size]
   have hid:=h.evm x;rw[hx]at hid;refine⟨_,.slice (some (if m=I.toNat then⟨b,0,none⟩else(⟨b,0,none⟩:Addr).add (I.toNat*te.size))) (ag.toNat-I.toNat) (m-I.toNat),hK,?_,?_,by simpa[HV.men]using hid⟩
   · simp_all[Instr.sliceAt,G6,D4,E6,Instr.sureAddr,I7]
   · refine dD ?_ rfl rfl;simp only[RepH];refine⟨_,rfl,by simp[Value.oneCell'],fun an ae=>(by grind),fun b' ae=>?_⟩;rw[hρ]at ae;cases ae;congr 1;by_cases hc:m=I.toNat;all_goals simp_all[L8,E8,Addr.add]
  grind
 · exact aW8 h hl
theorem bG5 (h:RepA' c M fr ob a w ρ){t t' ty:TypeId}{x y:Operand}{K:HV→Ob→Prop}(hl:hcopy P t (ev fr x) (ev fr y) ob K):
  ∃v ob' z w',K v ob'∧(Builtin.copy_ #[t,t'] ty #[a.eval x,a.eval y]).run P w= .ok z w'∧ ∀(d:Option Nat),(∀k,d=some k→k<c.n)→RepA' c M (updo fr d v) ob' (a.put d z) w' ρ:=by
 unfold hcopy at hl;rw[aD]at hl;obtain⟨ti,ht,hl⟩:=hl;obtain⟨i0,d0,bn,ao⟩:=bF ht;have ai:=ao.d_;split at hl
 ·
  rename_i e id n lo sz hi bh hx;rw[bh]at ai;have hu:P.underlying t=some (.slice e):=by rw[ao.under];congr 1;cases d0<;>simp[tyd]at ai;rw[ai]
  rw[aD]at hl;obtain⟨I,ay,hl⟩:=hl;obtain⟨ie,de,bm,ab⟩:=bF ay;split at hl
  ·
   rename_i T l ho;rw[aD]at hl;obtain⟨u,bc,⟨hn,bj,hlo,bl,ah,aw⟩,hK⟩:=hl;subst hn bj;obtain⟨ad,m,cap,xs,bf,hm,au,ak,aa,_⟩:=kN h bc;subst hm;obtain⟨b,cs,hρ,hb,J⟩:=h.box ho;simp only[RepH,RepC]at J;have hr:=dO (h.ev x (by rw[hx];simp)) (by rw[hx];rfl);rw[hx]at hr;simp only[RepH]at hr;obtain⟨⟨y',hy,bo,_,az⟩,_⟩:=hr;simp only[F8,J9]at hy;have ar:=az b hρ;rw[←hy]at ar;have bd:(sizeOf e).run P w= .ok I.size w:=by rw[bS ab.info,ab.size]
   obtain⟨k,hk⟩: ∃k,k=min u.length (hi-lo):=⟨_,rfl⟩;have bk:(u.take (hi-lo)).length=k:=by rw[E1,hk,Nat.min_comm]
   have bb:xs.length=u.length*I.size:=eK au aw;have ax:cs.length=l.length*I.size:=eK J ah;have aj:(xs.take (k*I.size)).length=k*I.size:=by
    rw[E1,bb];exact M6 (I3 _ (by omega))
   have aq:RepL w (Owned ρ c.X) (u.take (hi-lo)) (xs.take (k*I.size)):=by
    have:=gK k au aw;have e:u.take k=u.take (hi-lo):=by
     rcases Nat.le_total u.length (hi-lo)with h1|h1
     · rw[hk,M6 h1,C8 (E3 _),C8 h1]
     · rw[hk,Nat.min_eq_right h1]
    rw[←e];exact this
   have hload:(Builtin.firstCells I.size k (.slice ad u.length cap)).run P w= .ok (xs.take (k*I.size)).toArray w:=by
    cases ad with
    |none=>
     have:=ak rfl;have af:k=0:=by omega
     simp[Builtin.firstCells,af]
    |some b'=>
     have:=run_loadCells_list (P:=P) w b' (xs.take (k*I.size)) (fun j v hj=>by
      rw[M3]at hj;split at hj
      · exact aa b' rfl j v hj
      · cases hj)
     rw[aj]at this;simpa only[Builtin.firstCells]using this
   obtain⟨off,U⟩: ∃off,off=if l.length=lo then 0 else lo*I.size:=⟨_,rfl⟩
   have hbound:off+k*I.size≤cs.length:=by
    rw[U,ax];split
    ·
     have:k=0:=by omega
     simp[this]
    · rw[←Nat.add_mul];exact I3 _ (by omega)
   have ae:=Z2 P b off T (xs.take (k*I.size)) 0 cs.toArray w hb (by simp only[I8,aj];omega) (kW aq);simp only[L4,aj]at ae;have an:RepL w (Owned ρ c.X) (dC3 l (u.take (hi-lo)) lo) (cs.take off++xs.take (k*I.size)++cs.drop (off+k*I.size)):=by
    simp only[dC3,bk];by_cases af:k=0
    · have e1:u.take (hi-lo)=[]:=D3 (by omega);rw[e1,af];simpa using J
    ·
     have ag:off=lo*I.size:=by rw[U,A7 (by omega)]
     rw[ag,←Nat.add_mul];exact eO.2 ⟨_,_,rfl,eO.2 ⟨_,_,rfl,gK lo J ah,aq⟩,jI (lo+k) J ah⟩
   refine⟨_,_,.int .i64 ((k:Nat):Int),w.setRow b (cs.take off++xs.take (k*I.size)++cs.drop (off+k*I.size)).toArray,hK,?_,fun d hd=>h.setObj (b0:=b) hρ rfl (h.mo id _ ho).1 (fun b' bg=>R7 w b b' _ bg) (X3 _ _ _) rfl rfl rfl (fun ba=>?_) (by simp[HO.men,HV.men]) (fun _=> .inr (by rw[←hk];exact eU _ _ _ _ _)) (by simp[HV.men]) hd⟩
   ·
    rw[ar,bf,←U];simp only[Builtin.copy_,P1,M1,M2,G6,D4 hu,E6,Builtin.lenOf,I7,bd];have e:Nat.min u.length (hi-lo)=k:=by rw[hk]
    simp only[e,hload,E6,ae,goInt]
   · refine⟨b,_,hρ,T1 w b _ _ T (0,0) hb,?_⟩;simp only[RepH,RepC];exact an.stay ba
  · exact hl.elim
 · exact hl.elim
theorem aW9 (h:RepA' c M fr ob a w ρ){t ty:TypeId}{x:Operand}{K:HV→Ob→Prop}(hl:hclear P t (ev fr x) ob K):
  ∃ob' w',K .junk ob'∧(Builtin.clear_ #[t] ty #[a.eval x]).run P w= .ok (.tuple #[]) w'∧ ∀(d:Option Nat) (z:Value),(∀k,d=some k→k<c.n)→RepA' c M (updo fr d .junk) ob' (a.put d z) w' ρ:=by
 unfold hclear at hl;rw[aD]at hl;obtain⟨ti,ht,hl⟩:=hl;obtain⟨i0,d0,bp,ai⟩:=bF ht;have au:=ai.d_;split at hl
 ·
  rename_i e id n lo sz hi bg hx;rw[bg]at au;have hu:P.underlying t=some (.slice e):=by rw[ai.under];congr 1;cases d0<;>simp[tyd]at au;grind
  rw[aD]at hl;obtain⟨te,az,hl⟩:=hl;obtain⟨ie,de,I,U⟩:=bF az;split at hl
  ·
   rename_i e' bl l ho;obtain⟨⟨hn,bm,rfl,ay,hlo,bk⟩,hK⟩:=hl;obtain⟨hd,xs,hρ,aq,ad,how⟩:=h.rowO ho;rcases how.2 with⟨rfl,hz⟩|⟨g,cap,cur,rfl,bo,hg,af,hmax,aw,ah⟩
   · omega
   have hr:=dO (h.ev x (by grind)) (by rw[hx];rfl);rw[hx]at hr;simp only[RepH]at hr;obtain⟨⟨y,hy,bt,ba,_⟩,_⟩:=hr;simp only[F8,J9]at hy;obtain⟨_,bb⟩:=ba _ hρ;have aj:a.eval x= .slice (some ⟨g,if cap=lo then 0 else lo*sz,none⟩) (hi-lo) (cap-lo):=by rw[hy];exact bb (by simp[Hl.hlen,hn]) g cap (by rw[hn])
   by_cases hz:hi=lo
   ·
    subst hz;have bc:l.take hi++List.replicate (hi-hi) te.z++l.drop hi=l:=by simp
    rw[bc]at hK;have bd:upd ob id (some (.row e' sz l))=ob:=by
     funext k;by_cases hk:k=id
     · simp_all
     · rw[bE _ _ hk]
    rw[bd]at hK;refine⟨_,w,hK,?_,fun d z hd=>h.value (.inl rfl) (by simp[HV.men]) hd⟩;rw[aj];simp[Builtin.clear_,D4 hu]
   ·
    have bh:cap≠lo:=by omega
    have bj:(zeroValue e).run P w= .ok I w:=by simp[zeroValue,typeInfo,U.info,U.zero]
    have ar:I.cells.toList.length=te.size:=by simp[U.zsize]
    have ao:(Builtin.zeroCells I.cells (hi-lo)).toList=(List.replicate (hi-lo) I.cells.toList).flatten:=nO _ _;have J:(List.replicate (hi-lo) I.cells.toList).flatten.length=(hi-lo)*sz:=by simp[ar,ay]
    have ax:RepL w (Owned ρ c.X) (List.replicate (hi-lo) te.z) (List.replicate (hi-lo) I.cells.toList).flatten:=pO (U.rep w _) _;have hbound:lo*sz+(hi-lo)*sz=hi*sz:=by rw[←Nat.add_mul];congr 1;omega
    have br:hi*sz≤l.length*sz:=I3 _ (by omega);have bq:l.length*sz≤cap*sz:=I3 _ af;have aa:=Z2 P g (lo*sz) e' (List.replicate (hi-lo) I.cells.toList).flatten 0 cur w hg (by grind) (kW ax);simp only[L4,J]at aa;have ae:cur.toList.take (lo*sz)++(List.replicate (hi-lo) I.cells.toList).flatten++cur.toList.drop (lo*sz+(hi-lo)*sz)=
      (xs.take (lo*sz)++(List.replicate (hi-lo) I.cells.toList).flatten++xs.drop (hi*sz))++cur.toList.drop (l.length*sz):=by
     rw[←ah,hbound,R1,M6 (by omega)];simp only[H5];congr 2;rw[BB];have e1:cur.toList.drop (hi*sz)=(cur.toList.drop (hi*sz)).take (l.length*sz-hi*sz)++cur.toList.drop (l.length*sz):=by
      have e0:cur.toList.drop (l.length*sz)=(cur.toList.drop (hi*sz)).drop (l.length*sz-hi*sz):=by
       rw[BC];congr 1;omega
      rw[e0,K9]
     exact e1
    rw[ae]at aa;refine⟨_,w.setRow g ((xs.take (lo*sz)++(List.replicate (hi-lo) I.cells.toList).flatten++xs.drop (hi*sz))++cur.toList.drop (l.length*sz)).toArray,hK,?_,fun d z hd=>h.setObj (b0:=g) hρ (by simp[Loc.has,Value.ownBlock]) (h.mo id _ ho).1 (fun b' bf=>R7 w g b' _ bf) (X3 _ _ _) rfl rfl rfl (fun ag=>?_) trivial (fun _=> .inl rfl) (by simp[HV.men]) hd⟩
    ·
     rw[aj,A7 bh];have an:hi-lo≠0:=by omega
     obtain⟨k,hk⟩:=Nat.exists_eq_succ_of_ne_zero an;rw[←ao]at aa;rw[hk]at aa⊢;simp only[Builtin.clear_,G6,D4 hu,E6,bj,aa,I7,P1,M1];rw[←hk,ao]
    ·
     have ab:(l.take lo++List.replicate (hi-lo) te.z++l.drop hi).length=l.length:=by simp;omega
     refine⟨_,_,hρ,eO.2 ⟨_,_,rfl,eO.2 ⟨_,_,rfl,(gK lo aq ad).stay ag,ax.stay ag⟩,(jI hi aq ad).stay ag⟩,fun v hv=>?_,?_,.inr ⟨g,cap,_,by rw[ab],I1 _,T1 w g _ _ e' (0,0) hg,by rw[ab];exact af,hmax,?_,?_⟩⟩
     ·
      simp only[D6,CB]at hv;rcases hv with(hv|⟨_,rfl⟩)|hv
      · exact ad v (J3 hv)
      · rw[ay,←bK (U.rep w (fun _=>False)),ar]
      · exact ad v (H8 hv)
     · rw[ab];have ak:=how.1;simp only[A3,E1,G8,J];omega
     ·
      rw[←aw];have ak:=how.1;have bn:cur.toList.length=cur.size:=by simp
      simp only[I8,A3,E1,G8,J];omega
     · rw[ab];refine X6 ?_;have ak:=how.1;simp only[A3,E1,G8,J];omega
  grind
 grind
theorem bN4 (h:RepA' c M fr ob a w ρ){x:Operand}{id:Nat}(hx:ev fr x= .mapr id){e:TypeId}{sz:Nat}{D:MD}(ho:ob id=some (.mp e sz D)):
  ∃b hf,ρ id=some (.mp b hf)∧a.eval x= .map (some b)∧RepM w (Owned ρ c.X) e sz D b hf:=by
 have J:=dO (h.ev x (by rw[hx];simp)) (by rw[hx];rfl);rw[hx]at J;simp only[RepH]at J;obtain⟨⟨y,U,aa,I⟩,_⟩:=J;simp only[F8,J9]at U;obtain⟨b,hf,h1,h2⟩:=h.s.objs id _ ho;exact⟨b,hf,h1,by rw[U];exact I _ _ h1,h2⟩
theorem bN5 (h:RepA' c M fr ob a w ρ){x:Operand}{id n:Nat}{k:List UInt8}(hx:ev fr x= .mrow id k n){b:Nat}{hf:List UInt8→Option Value}{I:Value}(hρ:ρ id=some (.mp b hf))(hk:hf k=some I)(hn:hlen I=n):a.eval x=I:=by
 have U:=dO (h.ev x (by rw[hx];simp)) (by rw[hx];rfl);rw[hx]at U;simp only[RepH]at U;obtain⟨⟨y,hy,aa,J⟩,_⟩:=U;simp only[F8,J9]at hy;rw[hy];exact(J _ _ _ hρ hk).2 hn
theorem aA7 {J:TypeId}(U:P.underlying J=some .string){s:List UInt8}(hs:s.length≤maxLen): ∃l,keyOf P J (gD s)=some l:=by
 have I:(⟨s.toArray⟩:ByteArray).size=s.length:=by simp[ByteArray.size]
 simp[keyOf,U,mapKey,gD,I,hs]
theorem dC4 {e:TypeId}{sz:Nat}{D:MD}{b:Nat}{hf:List UInt8→Option Value}{O:Nat→Prop}(h:RepM w O e sz D b hf){k:List UInt8}(hk:dM D k≠some .lent): ∃I,hf k=some I∧hlen I=(iB (dM D k)).length∧I.oneCell'=true:=by
 cases J:hf k with
 |none=>exact absurd ((h.lent k).1 J) hk
 |some I=>
  obtain⟨_,xs,_,_,how⟩:=h.row k I J;refine⟨I,rfl,?_,?_⟩
  ·
   rcases how.2 with⟨rfl,U⟩|⟨g,cap,cur,rfl,_⟩
   · simp[hlen,U]
   · simp[hlen]
  · rcases how.2 with⟨rfl,U⟩|⟨g,cap,cur,rfl,_⟩<;>simp[Value.oneCell']
theorem wO {id n:Nat}{k:List UInt8}{O:Nat→Prop}{b:Nat}{hf:List UInt8→Option Value}{I:Value}(hρ:ρ id=some (.mp b hf))(hk:hf k=some I)(hn:hlen I=n)(h1:I.oneCell'=true):RepV w ρ O (.mrow id k n) I:=by
 refine dD ?_ rfl (iX h1);simp only[RepH];refine⟨_,rfl,h1,fun b' aa h' U J=>?_⟩;rw[hρ]at U;cases U;rw[hk]at J;cases J;exact⟨by omega,fun _=>rfl⟩
theorem dB0 {t U et:TypeId}{ti tk:TyI}(ht:aP P t=some ti)(hd:ti.d= .map U et)(hk:aP P U=some tk)(aa:tk.d= .string):P.underlying t=some (.map U et)∧P.underlying U=some .string:=by
 obtain⟨i0,d0,ab,J⟩:=bF ht;obtain⟨i1,d1,ad,I⟩:=bF hk;have h1:=J.d_;have h2:=I.d_;rw[hd]at h1;rw[aa]at h2;refine⟨?_,?_⟩
 · rw[J.under];congr 1;cases d0<;>simp[tyd]at h1;rw[h1.1,h1.2]
 · rw[I.under];congr 1;cases d1<;>simp[tyd]at h2;rfl
theorem aX0 {kt:TypeId}(U:P.underlying kt=some .string){D:MD}{hf:List UInt8→Option Value}{O:Nat→Prop}{es:Array MapEntry}
  (h4: ∀x∈es.toList,∃k m,dM D k=some m∧x.key=gD k∧k.length≤maxLen∧RepMV w O (hf k) m x.val) (h5: ∀k m,dM D k=some m→m.there=true→ ∃x∈es.toList,x.key=gD k) {s:List UInt8} (hs:s.length≤maxLen):
  (Instr.checkKey es.isEmpty 10000 kt (gD s)).run P w= .ok () w∧(Instr.checkKey false 10000 kt (gD s)).run P w= .ok () w∧(Instr.keyThatStays (gD s) (gD s)).run P w= .ok (gD s) w∧
  (((Instr.findKey kt (gD s) es.toList).run P w= .ok none w∧(∀x∈es.toList,x.key≠gD s)∧ ∀m,dM D s=some m→m.there=false)∨
   ∃j J m,(Instr.findKey kt (gD s) es.toList).run P w= .ok (some (j,J.val)) w∧es.toList[j]? =some J∧J.key=gD s∧dM D s=some m∧RepMV w O (hf s) m J.val):=by
 obtain⟨lk,I⟩:=aA7 (P:=P) U hs;have K:=Maps.string_keyed (P:=P) U;refine⟨K.check w _ I,K.check w _ I,K.stays w I,?_⟩;rcases K.find w I es.toList (fun x hx=>by
  obtain⟨k,m,_,e2,e3,_⟩:=h4 x hx;rw[e2];exact aA7 U e3)with⟨h1,h2⟩|⟨j,J,h1,h2,h3⟩
 ·
  refine .inl ⟨h1,h2,fun m hm=>?_⟩;cases ht:m.there with
  |false=>rfl
  |true=>
   obtain⟨x,hx,e⟩:=h5 s m hm ht;exact absurd e (h2 x hx)
 · obtain⟨k,m,e1,e2,e3,e4⟩:=h4 J (T8 h2);rw[h3]at e2;cases aV8 e2;exact .inr ⟨j,J,m,h1,h2,h3,e1,e4⟩
theorem aR2 (h:RepA' c M fr ob a w ρ){t:TypeId}{m k:Operand}{K:HV→Prop}(hl:hlookup P t (ev fr m) (ev fr k) ob K):
  ∃u y,K u∧(Instr.lookup t (a.eval m) (a.eval k) false).run P w= .ok y w∧RepV w ρ (Owned ρ c.X) u y∧u.men M:=by
 unfold hlookup at hl;rw[aD]at hl;obtain⟨ti,ht,hl⟩:=hl;split at hl
 ·
  rename_i kt et aw;rw[aD]at hl;obtain⟨tk,bc,hl⟩:=hl;rw[aD]at hl;obtain⟨te,au,hl⟩:=hl;split at hl
  ·
   rename_i id s ay hm hk;obtain⟨hs,hl⟩:=hl;split at hl
   ·
    rename_i e sz D ho;obtain⟨ao,bd⟩:=dB0 ht aw bc ay;obtain⟨b,hf,hρ,an,hM⟩:=bN4 h hm ho;obtain⟨es,clock,hb,bg,h4,h5⟩:=hM.blk;obtain⟨c1,c2,c3,ae⟩:=aX0 (P:=P) (w:=w) bd h4 h5 hs;obtain⟨ie,de,aj,I⟩:=bF au;have bb:(zeroValue et).run P w= .ok aj w:=by simp[zeroValue,typeInfo,I.info,I.zero]
    have af:a.eval k=gD s:=nA h hk;have ad:=h.evm m;rw[hm]at ad;have ag:(Instr.findKey kt (gD s) es.toList).run P w= .ok none w→(Instr.lookup t (a.eval m) (a.eval k) false).run P w= .ok aj w:=fun hr=>by
     rw[an,af];simp[Instr.lookup,D4 ao,L7 hb,c1,hr,bb,Result.andThen]
    have ai: ∀j (en:MapEntry),(Instr.findKey kt (gD s) es.toList).run P w= .ok (some (j,en.val)) w→(Instr.lookup t (a.eval m) (a.eval k) false).run P w= .ok en.val w:=fun j en hr=>by
     rw[an,af];simp[Instr.lookup,D4 ao,L7 hb,c1,hr,Result.andThen]
    split at hl
    ·
     rename_i el bf ba;obtain⟨hrow,hK⟩:=hl;have ax:dM D s≠some .lent:=by intro e;rw[e]at hrow;simp[aA6]at hrow
     obtain⟨hd,hh,hlen,ah⟩:=dC4 hM ax;rcases ae with⟨hr,_,ak⟩|⟨j,en,mv,hr,_,_,ab,aa⟩
     ·
      have J:dM D s=none:=by
       cases hg:dM D s with
       |none=>rfl
       |some mv=>
        have:=ak mv hg;rw[hg]at hrow;cases mv<;>simp[aA6,MV.there]at hrow this
      have aq:=hM.nil s hd hh J;refine⟨_,_,hK,ag hr,?_,by simpa[HV.men]using ad⟩;have az:aj= .slice none 0 0:=by
       have hz:=I.rep w (fun _=>False);have ar:=I.agg;rw[ba]at hz ar;simp only[RepC]at hz;rw[cells_single (by rw[ar];rfl)]at hz;simpa using hz
      rw[az,←aq];exact wO hρ hh hlen ah
     ·
      refine⟨_,_,hK,ai j en hr,?_,by simpa[HV.men]using ad⟩;rw[ab]at hrow;cases mv with
      |row l=>
       simp only[RepMV]at aa;rw[aa]at hh;cases hh;exact wO hρ aa hlen ah
      |_=>simp[aA6]at hrow
    ·
     obtain⟨U,hK⟩:=hl;rcases ae with⟨hr,_,ak⟩|⟨j,en,mv,hr,_,_,ab,aa⟩
     ·
      have J:dM D s=none:=by
       cases hg:dM D s with
       |none=>rfl
       |some mv=>
        have:=ak mv hg;rw[hg]at U;cases mv<;>simp[sT,MV.there]at U this
      refine⟨_,_,hK,ag hr,?_,by simp[HV.men]⟩;rw[J];exact⟨by simp only[RepH,bN3];exact I.rep w _,by simp only[bN3,HV.isAgg];rw[I.agg]⟩
     ·
      refine⟨_,_,hK,ai j en hr,?_,by simp[HV.men]⟩;rw[ab]at U⊢;cases mv with
      |val cv=>
       obtain⟨cs,h1,h2⟩:=aa;rw[h2];exact iF (v:= .c cv) (by simp only[RepH];exact h1) rfl (by simp[HV.sto])
      |_=>simp[sT]at U
   · exact hl.elim
  · exact hl.elim
 · exact hl.elim
theorem dC5 {t kt et e:TypeId}{sz b:Nat}{D:MD}{hf:List UInt8→Option Value}{O:Nat→Prop}(ar:P.underlying t=some (.map kt et))(bd:P.underlying kt=some .string)(hM:RepM w O e sz D b hf){s:List UInt8}(hs:s.length≤maxLen)
  {mv:MV} (bk:mv.there=true) (hrow:iB (some mv)=iB (dM D s)) (ay:dM D s≠some .lent) (az:mv≠ .lent) {val:Value} (hv:RepMV w O (hf s) mv val):
  ∃w',(Instr.mapUpdate t (.map (some b)) (gD s) val).run P w= .ok () w'∧(∀b',b'≠b→w'.heap[b']? =w.heap[b']?)∧w'.heap.size=w.heap.size∧w'.os=w.os∧w'.tape=w.tape∧w'.output=w.output∧
   ∀O',Stay w O w' O'→RepM w' O' e sz (sQ D s mv) b hf:=by
 obtain⟨es,clock,hb,aj,h4,h5⟩:=hM.blk;obtain⟨c1,c2,c3,an⟩:=aX0 (P:=P) (w:=w) bd h4 h5 hs;have fin: ∀aa J,(Instr.mapUpdate t (.map (some b)) (gD s) val).run P w= .ok () (setBlock w b (.map aa J))→Go.MapKept.Stamped aa J→
   (∀x'∈aa.toList,(x'∈es.toList∧x'.key≠gD s)∨(x'.key=gD s∧x'.val=val))→(∀x∈es.toList,x.key≠gD s→x∈aa.toList)→(∃x∈aa.toList,x.key=gD s)→
   ∃w',(Instr.mapUpdate t (.map (some b)) (gD s) val).run P w= .ok () w'∧(∀b',b'≠b→w'.heap[b']? =w.heap[b']?)∧w'.heap.size=w.heap.size∧w'.os=w.os∧w'.tape=w.tape∧w'.output=w.output∧
   ∀O',Stay w O w' O'→RepM w' O' e sz (sQ D s mv) b hf:=by
  intro aa J ao au aq ai ae;refine⟨_,ao,fun b' bb=>heap_setBlock_other hb _ bb,by simp[setBlock],rfl,rfl,rfl,fun O' hS=>⟨⟨aa,J,heap_setBlock_same hb _,au,fun x hx=>?_,fun k m hg ht=>?_⟩,fun k hd hk=>?_,fun k=>?_,fun k hd hk hn=>?_,hM.apart⟩⟩
  ·
   rcases aq x hx with⟨h1,h2⟩|⟨h1,h2⟩
   · obtain⟨k,m,e1,e2,e3,e4⟩:=h4 x h1;have ad:k≠s:=fun e=>h2 (by rw[e2,e]);exact⟨k,m,by rw[dF _ _ ad];exact e1,e2,e3,e4.stay hS⟩
   · exact⟨s,mv,dE _ _ _,h1,hs,by rw[h2];exact hv.stay hS⟩
  ·
   by_cases I:k=s
   · subst I;exact ae
   · rw[dF _ _ I]at hg;obtain⟨x,hx,ek⟩:=h5 k m hg ht;exact⟨x,ai x hx (fun e=>I (aV8 (ek.symm.trans e))),ek⟩
  ·
   obtain⟨g1,xs,g2,g3,g4⟩:=hM.row k hd hk;have bf:iB (dM (sQ D s mv) k)=iB (dM D k):=by
    by_cases I:k=s
    · subst I;rw[dE];exact hrow
    · rw[dF _ _ I]
   rw[bf];exact⟨g1,xs,g2.stay hS,g3,lE g4 (fun g hg=>heap_setBlock_other hb _ (fun e=>g1 (by rw[hg,e])))⟩
  ·
   by_cases I:k=s
   ·
    subst I;rw[dE,hM.lent];constructor
    · intro h;exact absurd h ay
    · intro h;cases h;exact absurd rfl az
   · rw[dF _ _ I];exact hM.lent k
  ·
   by_cases I:k=s
   · subst I;rw[dE]at hn;cases hn
   · rw[dF _ _ I]at hn;exact hM.nil k hd hk hn
 rcases an with⟨hr,h2,bj⟩|⟨j,e0,m,hr,h2,h3,bg,bh⟩
 ·
  refine fin (es.push ⟨gD s,val,clock⟩) (clock+1) ?_ (Go.MapKept.stamped_push aj h2) (fun x hx=>?_) (fun x hx _=>by simp only[CO,D6];exact .inl hx) ⟨⟨gD s,val,clock⟩,by simp,rfl⟩
  · simp[Instr.mapUpdate,D4 ar,L7 hb,c2,hr,V7 _ hb,Result.andThen,setBlock]
  ·
   simp only[CO,D6,E5]at hx;rcases hx with hx|rfl
   · exact .inl ⟨hx,h2 x hx⟩
   · exact .inr ⟨rfl,rfl⟩
 ·
  have hj:es[j]? =some e0:=by simpa using h2
  have ab:j<es.toList.length:=(H3.1 h2).1;have U:(es.modify j (fun e'=>{e' with key:=gD s,val:=val})).toList=es.toList.set j {e0 with key:=gD s,val:=val}:=by rw[Array.toList_modify,ChangeMaps.modify_eq_set _ _ _ _ h2]
  have ah: ∀e',es[j]? =some e'→({e' with key:=gD s,val:=val}:MapEntry).key=e'.key:=fun e' ag=>by rw[hj]at ag;cases ag;exact h3.symm
  have ak:=aj.2.2;have uniq: ∀i (x:MapEntry),es.toList[i]? =some x→x.key=gD s→i=j:=by
   intro i x hi hk;have af:i<es.toList.length:=(H3.1 hi).1;have a1:(es.toList.map (·.key))[i]? =some (gD s):=by simp[hi,hk]
   have a2:(es.toList.map (·.key))[j]? =some (gD s):=by simp[h2,h3]
   rw[List.nodup_iff_pairwise_ne]at ak;by_cases ax:i<j
   · have:=(P0.1 ak) i j (by simpa using af) (by simpa using ab) ax;rw[A9 (by simpa using af)]at a1;rw[A9 (by simpa using ab)]at a2;exact absurd (F6 a1|>.trans (F6 a2).symm) this
   ·
    by_cases bc:j<i
    · have:=(P0.1 ak) j i (by simpa using ab) (by simpa using af) bc;rw[A9 (by simpa using af)]at a1;rw[A9 (by simpa using ab)]at a2;exact absurd (F6 a2|>.trans (F6 a1).symm) this
    · omega
  refine fin (es.modify j (fun e'=>{e' with key:=gD s,val:=val})) clock ?_ (Go.MapKept.stamped_modify aj _ _ (fun _ _=>rfl) (fun e' _ ag=>ah e' ag)) (fun x hx=>?_) (fun x hx ad=>?_) ⟨_,by rw[U];exact List.mem_set ab _,rfl⟩
  · simp[Instr.mapUpdate,D4 ar,L7 hb,c2,hr,hj,h3,c3,V7 _ hb,Result.andThen,setBlock]
  ·
   rw[U]at hx;obtain⟨i,hi,ex⟩:=L5 hx;rw[List.getElem_set]at ex;split at ex
   · exact .inr ⟨by rw[←ex],by rw[←ex]⟩
   ·
    rename_i ad;have aw:i<es.toList.length:=by simpa using hi
    refine .inl ⟨ex▸B5 aw,fun hk=>ad (uniq i x (by rw[A9 aw,ex]) hk).symm⟩
  ·
   rw[U];obtain⟨i,hi,ex⟩:=L5 hx;have ba:j≠i:=by
    intro e;subst e;rw[A9 hi,ex]at h2;cases h2;exact ad h3
   have:(es.toList.set j {e0 with key:=gD s,val:=val})[i]? =some x:=by
    rw[List.getElem?_set_ne ba,A9 hi,ex]
   exact T8 this
theorem zE (h:RepA' c M fr ob a w ρ){t:TypeId}{m k v:Operand}{K:HV→Ob→Prop}(hl:hmapUpdate P t (ev fr m) (ev fr k) (ev fr v) ob K):
  ∃ob' w',K .junk ob'∧(Instr.mapUpdate t (a.eval m) (a.eval k) (a.eval v)).run P w= .ok () w'∧ ∀(d:Option Nat) (z:Value),(∀k,d=some k→k<c.n)→RepA' c M (updo fr d .junk) ob' (a.put d z) w' ρ:=by
 unfold hmapUpdate at hl;rw[aD]at hl;obtain⟨ti,ht,hl⟩:=hl;split at hl
 ·
  rename_i kt et ad;rw[aD]at hl;obtain⟨tk,ai,hl⟩:=hl;rw[aD]at hl;obtain⟨te,an,hl⟩:=hl;split at hl
  ·
   rename_i id s af hm hk;obtain⟨hs,hl⟩:=hl;split at hl
   ·
    rename_i e sz D ho;obtain⟨ag,aj⟩:=dB0 ht ad ai af;obtain⟨b,hf,hρ,ae,hM⟩:=bN4 h hm ho;have ab:a.eval k=gD s:=nA h hk;rw[ae,ab];have go: ∀mv:MV,mv.there=true→iB (some mv)=iB (dM D s)→dM D s≠some .lent→mv≠ .lent→RepMV w (Owned ρ c.X) (hf s) mv (a.eval v)→K .junk (upd ob id (some (.mp e sz (sQ D s mv))))→
      ∃ob' w',K .junk ob'∧(Instr.mapUpdate t (.map (some b)) (gD s) (a.eval v)).run P w= .ok () w'∧ ∀(d:Option Nat) (z:Value),(∀k,d=some k→k<c.n)→RepA' c M (updo fr d .junk) ob' (a.put d z) w' ρ:=by
     intro mv g1 g2 g3 g4 g5 hK;obtain⟨w',aa,q1,q2,q3,q4,q5,q6⟩:=dC5 (P:=P) ag aj hM hs g1 g2 g3 g4 g5;exact⟨_,w',hK,aa,fun d z hd=>h.setObj (b0:=b) hρ (.inl rfl) (h.mo id _ ho).1 q1 q2 q3 q4 q5 (fun ah=>⟨b,hf,hρ,q6 _ ah⟩) trivial (fun _=> .inl rfl) (by simp[HV.men]) hd⟩
    split at hl
    ·
     rename_i el aq s2 n ao U;obtain⟨⟨rfl,rfl,hn,hrow⟩,hK⟩:=hl;have J:dM D s2≠some .lent:=by intro e;rw[e]at hrow;simp[aR0]at hrow
     obtain⟨hd,hh,hlen,ak⟩:=dC4 hM J;refine go _ rfl rfl J (by simp) ?_ hK;simp only[RepMV];rw[hh,bN5 h U hρ hh (by rw[hlen,hn])]
    ·
     rename_i cv _ _ U;obtain⟨I,hK⟩:=hl;have J:dM D s≠some .lent:=by intro e;rw[e]at I;simp[sT]at I
     refine go _ rfl ?_ J (by simp) ?_ hK
     ·
      cases hg:dM D s with
      |none=>rfl
      |some mv=>rw[hg]at I;cases mv<;>simp[sT]at I;rfl
     · have hr:=h.ev v (by rw[U];simp);rw[U]at hr;refine⟨_,by simpa only[RepH]using hr.1,?_⟩;exact(mQ _ _ hr.2.symm).symm
    · exact hl.elim
   · exact hl.elim
  · exact hl.elim
 · exact hl.elim
theorem aH8 (h:RepA' c M fr ob a w ρ){nid:Nat}(hn: ¬M nid)(hM: ∀i,M i→M' i)(I:M' nid){t:TypeId}{K:HV→Ob→Prop}(hl:hmakeMap P t nid ob K)(d:Option Nat)(hd: ∀k,d=some k→k<c.n):
  ∃v ob' y w' ρ',K v ob'∧(Instr.makeMap t none).run P w= .ok y w'∧RepA' c M' (updo fr d v) ob' (a.put d y) w' ρ':=by
 unfold hmakeMap at hl;rw[aD]at hl;obtain⟨ti,ht,hl⟩:=hl;have go: ∀e sz,K (.mapr nid) (upd ob nid (some (.mp e sz [])))→ ∃v ob' y w' ρ',K v ob'∧(Instr.makeMap t none).run P w= .ok y w'∧RepA' c M' (updo fr d v) ob' (a.put d y) w' ρ':=by
  intro e sz hK;refine⟨_,_,.map (some w.heap.size),w.alloc (.map #[] 0),_,hK,rfl,h.newObj (w1:=w) (L:= .mp w.heap.size (fun _=>some (.slice none 0 0))) hn hM I rfl rfl rfl rfl ?_ (fun ab=>?_) trivial (.inr ?_) (by simpa[HV.men]using I) hd⟩
  ·
   rintro b (hb|⟨k,v,J,e2⟩)
   · exact hb
   · cases J;simp[Value.ownBlock]at e2
  · refine⟨_,_,aR _ _ _,⟨⟨#[],0,N4 w _,by simp[MapKept.Stamped],by simp,by simp[dM]⟩,fun k v U=>?_,fun k=>by simp[dM],fun k v U _=>by cases U;rfl,fun k k' v v' g J _ e3 _=>by cases J;simp[Value.ownBlock]at e3⟩⟩;cases U;exact⟨by simp[Value.ownBlock],[],by simp[dM,iB,RepL],by simp[dM,iB],by simp only[dM,iB];exact Z5 _ 0 e sz⟩
  · refine dD ?_ rfl rfl;simp only[RepH];refine⟨_,rfl,by simp[Value.oneCell'],fun b hf hρ=>?_⟩;rw[aR]at hρ;cases hρ;rfl
 split at hl
 ·
  rw[aD]at hl;obtain⟨te,aa,hl⟩:=hl;split at hl
  · rw[aD]at hl;obtain⟨t2,ad,hl⟩:=hl;exact go _ _ hl
  · exact go _ _ hl
 · exact hl.elim
theorem aH9 (h:RepA' c M fr ob a w ρ){nid:Nat}(hn: ¬M nid)(hM: ∀i,M i→M' i)(ck:M' nid){t ty:TypeId}{s x:Operand}{K:HV→Ob→Prop}
  (hl:happend2 P t (ev fr s) (ev fr x) nid ob K) (d:Option Nat) (hd: ∀k,d=some k→k<c.n):
  ∃v ob' y w' ρ',K v ob'∧(Builtin.append_ #[t,t] ty #[a.eval s,a.eval x]).run P w= .ok y w'∧RepA' c M' (updo fr d v) ob' (a.put d y) w' ρ':=by
 unfold happend2 at hl;split at hl
 ·
  rename_i id k n hs;rw[aD]at hl;obtain⟨ti,ht,hl⟩:=hl;obtain⟨i0,d0,cx,bl⟩:=bF ht;split at hl
  ·
   rename_i e bz;rw[aD]at hl;obtain⟨te,bx,hl⟩:=hl;obtain⟨ie,de,cd,ae⟩:=bF bx;rw[aD]at hl;obtain⟨l2,hx,bu,hl⟩:=hl;have bd:=bl.d_;rw[bz]at bd;have hu:P.underlying t=some (.slice e):=by
    rw[bl.under];congr 1;cases d0<;>simp[tyd]at bd;rw[bd]
   obtain⟨ad,m,cp,news,he,hm,bc,bg,ar,_,_⟩:=kN h hx;have ca:news.length=m*ie.size:=by rw[eK bc bu,hm,ae.size]
   have cf:cd.cells.size=ie.size:=by rw[ae.zsize,ae.size]
   split at hl
   ·
    rename_i e' sz D ho;obtain⟨⟨hrow,cb,rfl,rfl⟩,hb,cg,hK⟩:=hl;have ba:dM D k≠some .lent:=by intro e;rw[e]at hrow;simp[aR0]at hrow
    obtain⟨b,hf,hρ,af⟩:=h.s.objs id _ ho;obtain⟨ah,ag,hlen,cu⟩:=dC4 af ba;obtain⟨bo,xs,cc,ch,how⟩:=af.row k ah ag;have ct:a.eval s=ah:=bN5 h hs hρ ag (by rw[hlen,cb]);obtain⟨es,clock,bh,bn,h4,h5⟩:=af.blk;have cm:b<w.heap.size:=(G1.1 bh).1;rw[←ae.size]at how;generalize hL:iB (dM D k)=l at*;obtain⟨v',w',bq,ao,ak,hblk,cj⟩:=lG (P:=P) (ty:=ty) hu ae.info ae.zero cf ah l.length xs how ad m cp news ca bg ar (kW bc) (by rw[hm];exact cg) (by rw[hm,ae.bytes];exact hb);have cn:Hl.hlen v'=l.length+m:=ownsRow_size ao;have bb:v'.oneCell'=true:=by rcases ao.2 with⟨rfl,_⟩|⟨g,cap,cur,rfl,_⟩<;>simp[Value.oneCell']
    let an:List UInt8→Option Value:=fun k'=>if k'=k then some v' else hf k'
    let ρ':Env:=upd ρ id (some (.mp b an))
    have aa:an k=some v':=B1 rfl;have I: ∀k',k'≠k→an k'=hf k':=fun k' U=>A7 U;have az:=(h.mo id _ ho).1;have aj: ∀g,v'.ownBlock=some g→ah.ownBlock=some g∨g=w.heap.size:=fun g hg=>by
     rcases hblk with e|e
     · exact .inl (by rw[←e];exact hg)
     · rw[e]at hg;cases hg;exact .inr rfl
    have bk: ∀b',Own ρ' b'→Own ρ b'∨w.heap.size≤b':=by
     rintro b' ⟨i,L,h1,h2⟩;by_cases ei:i=id
     ·
      subst ei;simp only[ρ',aR]at h1;cases h1;rcases h2 with rfl|⟨k',v2,J,e2⟩
      · exact .inl ⟨i,_,hρ,.inl rfl⟩
      ·
       by_cases U:k'=k
       ·
        subst U;rw[aa]at J;cases J;rcases aj _ e2 with h3|h3
        · exact .inl ⟨i,_,hρ,.inr ⟨k',ah,ag,h3⟩⟩
        · exact .inr (by omega)
       · rw[I _ U]at J;exact .inl ⟨i,_,hρ,.inr ⟨k',v2,J,e2⟩⟩
     · simp only[ρ',bE _ _ ei]at h1;exact .inl ⟨i,L,h1,h2⟩
    have br:Stay2 w (Own ρ) w' (Own ρ'):=
     ⟨fun b' cq hO=>ak.block b' cq (fun e=>hO ⟨id,_,hρ,.inr ⟨k,ah,ag,e.symm⟩⟩),bk,ak.size,ak.os,ak.tape,ak.output⟩
    have bj:Moves M ρ ρ':=by
     intro i L' cy h1;by_cases ei:i=id
     ·
      subst ei;simp only[ρ',aR]at h1;cases h1;refine⟨_,hρ,.inr (.inr ⟨_,_,_,rfl,rfl,fun k' h' ab=>?_⟩)⟩;by_cases U:k'=k
      ·
       subst U;rw[aa]at ab;cases ab;refine⟨ah,ag,?_⟩;by_cases cr:m=0
       · exact .inl (cj cr).1.symm
       · exact .inr (by omega)
      · rw[I _ U]at ab;exact⟨h',ab,.inl rfl⟩
     · simp only[ρ',bE _ _ ei]at h1;exact⟨L',h1,.inl rfl⟩
    have aq:=br.stay c.X;have ay: ∀i L2 b',i≠id→ρ i=some L2→L2.has b'→(Loc.mp b an).has b'→False:=by
     rintro i L2 b' bf h2 h3 (h4|⟨k',v2,J,e2⟩)
     · exact bf (h.s.apart i id _ _ b' h2 hρ h3 (.inl h4))
     ·
      by_cases U:k'=k
      ·
       subst U;rw[aa]at J;cases J;rcases aj _ e2 with h5|h5
       · exact bf (h.s.apart i id _ _ b' h2 hρ h3 (.inr ⟨k',ah,ag,h5⟩))
       · have:=Owned.lt h.s h2 h3;omega
      · rw[I _ U]at J;exact bf (h.s.apart i id _ _ b' h2 hρ h3 (.inr ⟨k',v2,J,e2⟩))
    have bt:RepM w' (Owned ρ' c.X) e' te.size (sQ D k (.pend (l++l2))) b an:=by
     have bp:w'.heap[b]? =w.heap[b]? :=ak.block b cm (fun e=>bo e.symm);refine⟨⟨es,clock,by rw[bp];exact bh,bn,fun y hy=>?_,fun k' m' hg bm=>?_⟩,fun k' h' ab=>?_,fun k'=>?_,fun k' h' ab au=>?_,fun k1 k2 v1 v2 g J e2 e3 e4=>?_⟩
     ·
      obtain⟨k',m',J,e2,e3,e4⟩:=h4 y hy;by_cases U:k'=k
      · subst U;exact⟨k',_,dE _ _ _,e2,e3,trivial⟩
      · exact⟨k',m',by rw[dF _ _ U];exact J,e2,e3,by rw[I _ U];exact e4.stay aq⟩
     ·
      by_cases U:k'=k
      · subst U;rw[dE]at hg;cases hg;simp[MV.there]at bm
      · rw[dF _ _ U]at hg;exact h5 k' m' hg bm
     ·
      by_cases U:k'=k
      ·
       subst U;rw[aa]at ab;cases ab;refine⟨fun e=>?_,xs++news,?_,?_,?_⟩
       ·
        rcases aj _ e with h3|h3
        · exact bo h3
        · omega
       · rw[dE];exact eO.2 ⟨xs,news,rfl,cc.stay aq,bc.stay aq⟩
       ·
        rw[dE];intro v hv;rcases D6.1 hv with hv|hv
        · exact ch v hv
        · exact bu v hv
       · rw[dE];simp only[iB];rw[A3,←hm,←ae.size];exact ao
      · rw[I _ U]at ab;rw[dF _ _ U];obtain⟨q1,ys,q2,q3,q4⟩:=af.row k' h' ab;refine⟨q1,ys,q2.stay aq,q3,lE q4 (fun g hg=>ak.block g (q4.lt g hg).2 (fun e=>U (af.apart k' k h' ah g ab ag hg e.symm)))⟩
     ·
      by_cases U:k'=k
      · subst U;rw[aa,dE];simp
      · rw[I _ U,dF _ _ U];exact af.lent k'
     ·
      by_cases U:k'=k
      · subst U;rw[dE]at au;cases au
      · rw[I _ U]at ab;rw[dF _ _ U]at au;exact af.nil k' h' ab au
     ·
      by_cases aw:k1=k<;>by_cases ax:k2=k
      · rw[aw,ax]
      ·
       subst aw;rw[aa]at J;cases J;rw[I _ ax]at e2;rcases aj _ e3 with h3|h3
       · exact af.apart _ _ _ _ g ag e2 h3 e4
       · obtain⟨_,_,_,_,q4⟩:=af.row k2 v2 e2;have:=(q4.lt g e4).2;omega
      ·
       subst ax;rw[aa]at e2;cases e2;rw[I _ aw]at J;rcases aj _ e4 with h3|h3
       · exact af.apart _ _ _ _ g J ag e3 h3
       · obtain⟨_,_,_,_,q4⟩:=af.row k1 v1 J;have:=(q4.lt g e3).2;omega
      · rw[I _ aw]at J;rw[I _ ax]at e2;exact af.apart _ _ _ _ g J e2 e3 e4
    refine⟨_,_,_,_,ρ',hK,by rw[ct,he];exact bq,h.step hM br bj ⟨fun i o' ai=>?_,fun i hi=>?_,fun i i' L L' b' h1 h2 h3 h4=>?_,fun i L b' h1 h2=>?_⟩ (.inr ?_) (by simpa[HV.men]using hM _ az) (fun i o' ai=>?_) hd⟩
    ·
     by_cases ei:i=id
     · subst ei;rw[aR]at ai;cases ai;exact⟨b,an,aR _ _ _,bt⟩
     · rw[bE _ _ ei]at ai;refine RepO.stay aq bj (h.mo i o' ai).2 (bE _ _ ei) (fun L b' h1 h2=>?_) (h.s.objs i o' ai);exact ak.block b' (Owned.lt h.s h1 h2) (fun e=>ei (h.s.apart i id _ _ b' h1 hρ h2 (.inr ⟨k,ah,ag,e.symm⟩)))
    ·
     by_cases ei:i=id
     · subst ei;rw[aR]at hi;cases hi
     · rw[bE _ _ ei]at hi;simp only[ρ',bE _ _ ei];exact h.s.none i hi
    ·
     by_cases J:i=id<;>by_cases e2:i'=id
     · rw[J,e2]
     · subst J;simp only[ρ',aR]at h1;cases h1;simp only[ρ',bE _ _ e2]at h2;exact(ay i' L' b' e2 h2 h4 h3).elim
     · subst e2;simp only[ρ',aR]at h2;cases h2;simp only[ρ',bE _ _ J]at h1;exact(ay i L b' J h1 h3 h4).elim
     · simp only[ρ',bE _ _ J]at h1;simp only[ρ',bE _ _ e2]at h2;exact h.s.apart i i' L L' b' h1 h2 h3 h4
    ·
     by_cases J:i=id
     ·
      subst J;simp only[ρ',aR]at h1;cases h1;intro hX;rcases h2 with rfl|⟨k',v2,J,e2⟩
      · exact h.s.xb i _ _ hρ (.inl rfl) hX
      ·
       by_cases U:k'=k
       ·
        subst U;rw[aa]at J;cases J;rcases aj _ e2 with h5|h5
        · exact h.s.xb i _ _ hρ (.inr ⟨k',ah,ag,h5⟩) hX
        · have:=I0 (h.xlt _ hX) h.base.size;omega
       · rw[I _ U]at J;exact h.s.xb i _ _ hρ (.inr ⟨k',v2,J,e2⟩) hX
     · simp only[ρ',bE _ _ J]at h1;exact h.s.xb i L b' h1 h2
    · exact wO (aR _ _ _) aa (by rw[cn,A3,hm]) bb
    ·
     by_cases ei:i=id
     · subst ei;rw[aR]at ai;cases ai;exact⟨hM _ az,trivial⟩
     ·
      rw[bE _ _ ei]at ai;obtain⟨h1,h2⟩:=h.mo i o' ai;refine⟨hM _ h1,?_⟩;cases o' with
      |box t v=>exact HV.men_mono hM h2
      |row _ _ _=>trivial
      |mp _ _ _=>trivial
      |dead=>trivial
      |tab _=>trivial
      |hrow _ _ _=>exact HV.menL_mono hM h2
      |raw _ _=>trivial
      |it _ _ _ _=>exact hM _ h2
   · exact hl.elim
  · exact hl.elim
 · exact aQ8 h hn hM ck hl d hd
end
end Go.Hl
namespace Go.Hl
open Go Go.Lib
def cM (b:UInt8):CV:= .int .u8 b.toNat
def jJ :List CV→Option (List UInt8)
 |[]=>some []
 | .int .u8 n::l=>if 0≤n∧n<256 then(jJ l).map (UInt8.ofNat n.toNat::·)else none
 |_::_=>none
theorem bytesC_map : ∀(bs:List UInt8),jJ (bs.map cM)=some bs
 |[]=>rfl
 |b::bs=>by
  have h:=b.toNat_lt;simp only[B8,cM,jJ];rw[B1 ⟨by omega,by omega⟩,show bs.map cM=bs.map fun b=>CV.int .u8 b.toNat from rfl]at*;have I:=bytesC_map bs;rw[show bs.map cM=bs.map fun b=>CV.int .u8 b.toNat from rfl]at I;simp_all
theorem aK1 : ∀{l:List CV} {bs:List UInt8},jJ l=some bs→l=bs.map cM
 |[],bs,h=>by grind[jJ,Option.some.injEq]
 | .int .u8 n::l,bs,h=>by
  simp only[jJ]at h;split at h
  · rename_i hn;obtain⟨bs',I,rfl⟩:=C9.1 h;have J:=aK1 I;grind[cM,UInt8.toNat_ofNat',Nat.mod_eq_of_lt]
  grind
 | .bool _::_,_,h| .str _::_,_,h| .agg _::_,_,h| .nils::_,_,h| .slc _::_,_,h| .rp _::_,_,h| .fn _::_,_,h| .nilp::_,_,h| .nilf::_,_,h| .nili::_,_,h| .nilm::_,_,h| .ifc _ _::_,_,h=>by simp[jJ]at h
 | .int .i8 _::_,_,h| .int .i16 _::_,_,h| .int .i32 _::_,_,h| .int .i64 _::_,_,h| .int .u16 _::_,_,h| .int .u32 _::_,_,h| .int .u64 _::_,_,h=>by simp[jJ]at h
theorem aA8 {w:World}{O:Nat→Prop}: ∀(bs:List UInt8),RepL w O (bs.map cM) (strCells ⟨bs.toArray⟩)
 |[]=>by simp[RepL,strCells]
 |b::bs=>by
  simp only[B8,RepL];refine⟨[.int .u8 b.toNat],strCells ⟨bs.toArray⟩,by simp[strCells],by simp[cM,RepC],aA8 bs⟩
section
variable {P:Program}{c:Ctx}{M M':Nat→Prop}{fr:Fr}{ob:Ob}{a:Act}{w w':World}{ρ:Env}
theorem aA9 {t u ty e:TypeId}{i:TypeInfo}(ht:P.underlying t=some (.slice e))(hu:P.underlying u=some .string)(hi:P.info? e=some i)(hz:i.zero=some (.int .u8 0))(U:i.size=1)(ag:i.bytes=1)
  (v:Value) (n:Nat) (xs:List Value) (I:w.ownsRow 0 e 1 v n xs) (s:ByteArray) (ak:0<s.size) (af:n+s.size≤maxLen) (ah:n+s.size≤140737488355328):
  ∃v' w',(Builtin.append_ #[t,u] ty #[v,.string s]).run P w= .ok v' w'∧w'.ownsRow 0 e 1 v' (n+s.size) (xs++strCells s)∧w.grownBy w' v.ownBlock∧
   (v'.ownBlock=v.ownBlock∨v'.ownBlock=some w.heap.size):=by
 have ai:n+s.size≤9223372036854775807:=by simp only[maxLen]at af;omega
 have ad:xs.length=n:=by simpa using I.1
 have hlen:(xs++strCells s).length=(n+s.size)*1:=by rw[A3,ad,strCells_length,P4]
 rcases I.2 with⟨rfl,rfl⟩|⟨g,cap,cur,rfl,aj,hg,ao,aa,an,ab⟩
 ·
  have hx:xs=[]:=D3 ad;subst hx;have hr:=run_append_nil_string (P:=P) w t u ty e i _ ht hu hi hz s ak (by omega) (by rw[ag];omega);have ae:=DO w s.size 0 e;have aa:grownCap w s.size 0 e≤maxLen:=Y6 w s.size 0 e (by omega);simp only[F0,J1];refine⟨_,_,hr,⟨by rw[strCells_length,P4],.inr ⟨w.heap.size,_,_,rfl,I1 _,N4 w.drew _,ae,aa,?_,?_⟩⟩,⟨rfl,rfl,rfl,by simp,fun k hk _=>Z3 w.drew _ hk⟩,.inr (by simp[Value.ownBlock])⟩
  · have:s.data.size=s.size:=rfl;simp only[Z4,Array.size_map,BA,Value.cells,I8,S7,this];omega
  ·
   have h1:(s.data.map (fun b=>Value.int .u8 b.toNat)).toList=strCells s:=by simp[strCells]
   rw[BM,h1,P4,←strCells_length s];exact Y7
 ·
  rw[P4]at an ab;by_cases J:n+s.size≤cap
  ·
   have hr:=run_append_room_string (P:=P) w t u ty e i ht hu hi U g n cap cur hg s J (by omega);refine⟨_,_,hr,⟨hlen,.inr ⟨g,cap,_,rfl,aj,T1 w g cur _ e _ hg,J,aa,?_,?_⟩⟩,⟨rfl,rfl,rfl,by simp,fun k _ hk=>R7 w g k _ (fun e=>hk (by simp[Value.ownBlock,e]))⟩,.inl (by simp[Value.ownBlock])⟩
   · simp only[I8,A3,E1,G8,O5,strCells_length];omega
   · rw[ab,←hlen];exact Y7
  ·
   have holds: ∀j u,xs[j]? =some u→w.cell? ((⟨g,0,none⟩:Addr).add j)=some u:=I.cells (g:=g) rfl;have hr:=run_append_grow_string (P:=P) w t u ty e i _ ht hu hi hz ⟨g,0,none⟩ n cap xs (by rw[U];exact I.1) holds s (by omega) (by omega) (growslice_fits (by omega) (by rw[ag];omega));have ae:=DO w (n+s.size) cap e;have aa:grownCap w (n+s.size) cap e≤maxLen:=Y6 w (n+s.size) cap e af;refine⟨_,_,hr,⟨hlen,.inr ⟨w.heap.size,_,_,rfl,I1 _,N4 w.drew _,ae,aa,?_,?_⟩⟩,⟨rfl,rfl,rfl,by simp,fun k hk _=>Z3 w.drew _ hk⟩,.inr (by simp[Value.ownBlock])⟩
   · simp only[Z4,I8,BA,strCells_length,ad,Value.cells,I8,S7];omega
   · simp only[BM,H5];rw[←List.append_assoc,←hlen];exact Y7
theorem bG6 (h:RepA' c M fr ob a w ρ){src dst e:TypeId}(hs:P.underlying src=some (.slice e))(he:P.underlying e=some (.int .u8))(hd:P.underlying dst=some .string){x:Operand}{l:List CV}{bs:List UInt8}(hx:ev fr x= .c (.slc l))(hb:jJ l=some bs):
  (convert src dst (a.eval x)).run P w= .ok (.string ⟨bs.toArray⟩) w:=by
 have hr:=h.ev x (by grind);rw[hx]at hr;have h1:=hr.single rfl;simp only[RepC,F8,J9]at h1;obtain⟨I,cap,xs,sz,J,h2,h3,h4,h5,h6⟩:=h1;have hl:=aK1 hb;subst hl;have aa:xs=bs.map fun b=>Value.int .u8 b.toNat:=by
  have key: ∀(bs:List UInt8) (xs:List Value),RepL w (Owned ρ c.X) (bs.map cM) xs→xs=bs.map fun b=>Value.int .u8 b.toNat:=by
   intro bs;induction bs with
   |nil=>grind[RepL]
   |cons b bs ih=>
    intro xs h;simp only[B8,RepL,cM,RepC]at h;obtain⟨c1,c2,rfl,rfl,h7⟩:=h;rw[ih c2 h7];rfl
  exact key bs xs h2
 rw[J,A0];cases I with
 |none=>
  have hz:=h5 rfl;have U:bs=[]:=D3 (by grind);subst U;rw[run_convert_bytes_string w src dst e none _ cap hs he hd];rfl
 |some I=>
  refine run_convert_bytes_back w src dst e I cap bs hs he hd fun j hj=>?_;have:=(h6 I rfl).1 j (.int .u8 bs[j].toNat) (by grind);exact this
def happends (P:Program)(t u:TypeId)(s x:HV)(ob:Ob)(K:HV→Ob→Prop):Prop:=
 hlift (aP P t) fun ti=>hlift (aP P u) fun tu=>match ti.d,tu.d,x with
  | .slice e,.string,.c (.str b)=>hlift (aP P e) fun te=>(te.size=1∧te.bytes=1∧te.z= .int .u8 0)∧
   match s with
   | .own id n=>match ob id with
    |some (.row e' sz l)=>(n=l.length∧e'=e∧sz=1)∧0<b.length∧l.length+b.length≤140737488355328∧K (.own id (l++b.map cM).length) (upd ob id (some (.row e sz (l++b.map cM))))
    |_=>False
   |_=>False
  |_,_,_=>False
theorem aI0 (h:RepA' c M fr ob a w ρ)(hM: ∀i,M i→M' i){t u ty:TypeId}{s x:Operand}{K:HV→Ob→Prop}
  (hl:happends P t u (ev fr s) (ev fr x) ob K) (d:Option Nat) (hd: ∀k,d=some k→k<c.n):
  ∃v ob' y w' ρ',K v ob'∧(Builtin.append_ #[t,u] ty #[a.eval s,a.eval x]).run P w= .ok y w'∧RepA' c M' (updo fr d v) ob' (a.put d y) w' ρ':=by
 unfold happends at hl;rw[aD]at hl;obtain⟨ti,ht,hl⟩:=hl;rw[aD]at hl;obtain⟨tu,aq,hl⟩:=hl;obtain⟨i0,d0,bd,aj⟩:=bF ht;obtain⟨i1,d1,bg,ad⟩:=bF aq;split at hl
 ·
  rename_i e b ao ay hx;rw[aD]at hl;obtain⟨te,an,⟨h1,h2,h3⟩,hl⟩:=hl;obtain⟨ie,de,bf,I⟩:=bF an;have ae:=aj.d_;rw[ao]at ae;have hu:P.underlying t=some (.slice e):=by
   rw[aj.under];congr 1;cases d0<;>simp[tyd]at ae;rw[ae]
  have ab:=ad.d_;rw[ay]at ab;have ak:P.underlying u=some .string:=by rw[ad.under];congr 1;cases d1<;>simp[tyd]at ab;rfl
  have hz:ie.zero=some (.int .u8 0):=by
   have r:=I.rep w (fun _=>False);have ag:=I.agg;rw[h3]at r ag;rw[cells_single ag]at r;simp only[RepC,F8,J9]at r;rw[I.zero,r]
  split at hl
  ·
   rename_i id n hs;split at hl
   ·
    rename_i e' sz l ho;obtain⟨⟨rfl,rfl,rfl⟩,au,hb,hK⟩:=hl;obtain⟨ai,xs,hρ,bb,hlen,ax,bc,how⟩:=nN h hs ho rfl;have aa:(⟨b.toArray⟩:ByteArray).size=b.length:=by simp[ByteArray.size]
    obtain⟨v',w',ah,J,U,hblk⟩:=aA9 (P:=P) (ty:=ty) hu ak I.info hz (by rw[I.size,h1]) (by rw[I.bytes,h2]) ai l.length xs how ⟨b.toArray⟩ (by rw[aa];exact au) (by rw[aa];unfold maxLen;omega) (by rw[aa];exact hb);rw[aa]at J;have ar:Hl.hlen v'=l.length+b.length:=ownsRow_size J;refine⟨_,_,_,_,upd ρ id (some (.hdr v')),hK,by rw[bb,nA h hx];exact ah,?_⟩;refine h.rehdr hM (hM _ (h.mo id _ ho).1) (.inr ⟨ai,hρ,by omega⟩) U.os U.tape U.output U.size (fun b aw ba=>U.block b aw (fun e=>ba _ hρ (by simpa[Loc.has]using e.symm)))
     (fun g hg=>?_) ?_ (by rw[ar,A3,A0]) (fun az=>?_) hd
    ·
     rcases hblk with af|af
     · exact .inr ⟨_,hρ,by simpa[Loc.has]using af.symm.trans hg⟩
     · rw[af]at hg;cases hg;exact .inl (E3 _)
    · rcases J.2 with⟨rfl,_⟩|⟨g,cap,cur,rfl,_⟩<;>simp[Value.oneCell']
    ·
     refine⟨v',xs++strCells ⟨b.toArray⟩,aR _ _ _,eO.2 ⟨xs,_,rfl,ax.stay az,aA8 b⟩,fun v hv=>?_,?_⟩
     ·
      rcases D6.1 hv with hv|hv
      · exact bc v hv
      · obtain⟨y,_,rfl⟩:=H0.1 hv;rfl
     · rw[A3,A0];exact J
   · exact hl.elim
  · exact hl.elim
 · exact hl.elim
end
end Go.Hl
