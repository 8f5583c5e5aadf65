/- HL, part L: contracts of functions, and calls. By an AI agent. -/
import Derived.Test.YthedbjfipmkpiaaGreatDoorHlAs
set_option linter.unusedSimpArgs false
set_option linter.unusedVariables false
set_option linter.defProp false
namespace Go.Hl
open Go
def hun (op:UnOp)(x:HV)(K:HV→Prop):Prop:=
 match op,x with
 | .not,.c (.bool b)=>K (.c (.bool (!b)))
 | .neg,.c (.int k n)=>K (.c (.int k (k.wrap (0-n))))
 | .xor,.c (.int k n)=>K (.c (.int k (k.wrap (BitVec.ofInt k.bits (if k.signed then-1 else k.max)^^^BitVec.ofInt k.bits n).toNat)))
 | .plus,x=>False∧K x
 |_,_=>False
def hconv (P:Program)(src dst:TypeId)(x:HV)(K:HV→Prop):Prop:=
 hlift (aP P src) fun ts=>hlift (aP P dst) fun td=>match ts.d,td.d,x with
  |_,.int k,.c (.int _ n)=>K (.c (.int k (k.wrap n)))
  |_,.string,.c (.str s)=>K (.c (.str s))
  | .slice e,.string,.c (.slc l)=>hlift (aP P e) fun te=>te.d= .int .u8∧hlift (jJ l) fun bs=>K (.c (.str bs))
  |_,_,_=>False
def hindex (P:Program)(t:TypeId)(x i:HV)(K:HV→Prop):Prop:=
 hlift (aP P t) fun ti=>match ti.d,x,i with
  | .string,.c (.str s),.c (.int _ i)=>(0≤i∧i<(s.length:Int))∧K (.c (.int .u8 (s.getD i.toNat 0).toNat))
  | .array m e,x,.c (.int _ i)=>hlift (aP P e) fun te=>(x.isAgg=true∧x.sto=true∧0≤i∧i<(m:Int))∧hlift (HV.getAt (i.toNat*te.size) te.size te.d.isAgg x) K
  |_,_,_=>False
def hext (x:HV)(i:Nat)(K:HV→Prop):Prop:=
 match x with
 | .tup l=>hlift l[i]? K
 |_=>False
def hclo (f:FuncId)(caps:List HV)(K:HV→Prop):Prop:=
 match caps with
 |[]=>K (.c (.fn f))
 |caps=>(∀v∈caps,v≠ .junk)∧K (.clo f caps)
def hmax (mx:Bool)(x y:HV)(K:HV→Prop):Prop:=
 match x,y with
 | .c (.int k a),.c (.int k' b)=>k=k'∧K (.c (.int k (if mx then(if b>a then b else a)else(if b<a then b else a))))
 |_,_=>False
def live (x:HV)(ob:Ob):Prop:=
 match x with
 | .c (.rp _)=>True
 | .c (.fn _)=>True
 | .clo _ _=>True
 | .ptr id _=>HO.isBox (ob id)=true
 | .eptr id n _ _ _=>HO.isRow n (ob id)
 |_=>False
def TyD.plain :TyD→Bool
 | .bool| .int _| .string| .array _ _| .struct _=>true
 |_=>false
def hmkIface (P:Program)(t:TypeId)(x:HV)(K:HV→Prop):Prop:=
 hlift (aP P t) fun ti=>match x with
  | .c v=>ti.d.plain=true∧K (.c (.ifc t v))
  |_=>False
def hassert (P:Program)(t:TypeId)(x:HV)(K:HV→Prop):Prop:=
 hlift (aP P t) fun ti=>match x with
  | .c (.ifc t' v)=>ti.d.plain=true∧K (if t'=t then .tup [.c v,.c (.bool true)]else .tup [.c ti.z,.c (.bool false)])
  |_=>False
def hmakeSlice (P:Program)(t:TypeId)(len cap:HV)(nid:Nat)(ob:Ob)(K:HV→Ob→Prop):Prop:=
 hlift (aP P t) fun ti=>match ti.d,len,cap with
  | .slice e,.c (.int _ l),.c (.int _ c)=>hlift (aP P e) fun te=>if l=0 then(l=0∧0≤c∧c*te.bytes≤140737488355328∧c≤140737488355328)∧K (.own nid 0) (upd ob nid (some (.row e te.size [])))
   else(0≤l∧l=c∧te.size=1∧c*te.bytes≤140737488355328∧c≤140737488355328)∧K (.own nid l.toNat) (upd ob nid (some (.row e te.size (List.replicate l.toNat te.z))))
  |_,_,_=>False
def hop (P:Program)(nid:Nat)(o:Op)(e:Operand→HV)(ob:Ob)(K:HV→Ob→Prop):Prop:=
 match o with
 | .move x| .assign x=>e x≠ .junk∧K (e x) ob
 | .pick c a b=>hpick (e c) (e a) (e b) fun v=>v≠ .junk∧K v ob
 | .alloc t=>hlift (aP P t) fun ti=>K (.ptr nid 0) (upd ob nid (some (.box t (.c ti.z))))
 | .box t x=>e x≠ .junk∧K (.ptr nid 0) (upd ob nid (some (.box t (e x))))
 | .build t parts=>hlift (aP P t) fun ti=>iU ti parts.toList e fun v=>K v ob
 | .buildSlice t len parts=>hlift (aP P t) fun ti=>match ti.d with
  | .slice el=>hlift (aP P el) fun te=>hlift (hclosed e parts.toList 0 te.size) fun l=>(len=l.length∧len*te.size≤2^24)∧K (.own nid len) (upd ob nid (some (.row el te.size l)))
  |_=>False
 | .load t x=>hlift (aP P t) fun ti=>hload ti (e x) ob fun v=>K v ob
 | .store t x y=>hlift (aP P t) fun ti=>hstore ti (e x) (e y) ob K
 | .nilCheck x=>live (e x) ob∧K (e x) ob
 | .binOp op t x y _=>kK P op t (e x) (e y) fun v=>K (.c v) ob
 | .unOp op _ x=>hun op (e x) fun v=>K v ob
 | .convert s d x=>hconv P s d (e x) fun v=>K v ob
 | .makeFunc (.func f) first caps=>first= #[]∧hclo f (caps.toList.map e) fun v=>K v ob
 | .slice t x lo hi none=>hslice2 P t (e x) (lo.map e) (hi.map e) ob fun v=>K v ob
 | .slice t x lo (some hi) (some mx)=>hslice3 P t (e x) (lo.map e) (e hi) (e mx) fun v=>K v ob
 | .makeMap t none=>hmakeMap P t nid ob K
 | .lookup t m k false=>hlookup P t (e m) (e k) ob fun v=>K v ob
 | .mapUpdate t m k v=>hmapUpdate P t (e m) (e k) (e v) ob K
 | .fieldAddr t x f=>hfieldAddr P t (e x) f ob fun v=>K v ob
 | .field t x f=>((e x).isAgg=true∧(e x).sto=true)∧hfield P t f fun off tf=>hlift (HV.getAt off tf.size tf.d.isAgg (e x)) fun v=>K v ob
 | .indexAddr t x i=>hindexAddr P t (e x) (e i) ob fun v=>K v ob
 | .index t x i=>hindex P t (e x) (e i) fun v=>K v ob
 | .extract x i=>hext (e x) i fun v=>v≠ .junk∧K v ob
 | .call c=>match c.callee,c.args.toList,c.argTypes.toList with
  | .builtin .len,[x],[t]=>hlift (aP P t) fun ti=>match ti.d with
   | .string=>hlift (match e x with| .c (.str s)=>some s.length|_=>none) fun n=>K (.c (.int .i64 n)) ob
   | .slice _=>hlift (hread (e x) ob) fun l=>K (.c (.int .i64 l.length)) ob
   | .array n _=>K (.c (.int .i64 n)) ob
   |_=>False
  | .builtin .append,[s,x],[t,t']=>if t'=t then happend2 P t (e s) (e x) nid ob K else happends P t t' (e s) (e x) ob K
  | .builtin .max,[x,y],[_,_]=>hmax true (e x) (e y) fun v=>K v ob
  | .builtin .min,[x,y],[_,_]=>hmax false (e x) (e y) fun v=>K v ob
  | .builtin .clear,[x],[t]=>hclear P t (e x) ob K
  | .builtin .copy,[x,y],[t,_]=>hcopy P t (e x) (e y) ob K
  |_,_,_=>False
 | .makeInterface t x=>hmkIface P t (e x) fun v=>K v ob
 | .typeAssert x _ t true=>hassert P t (e x) fun v=>K v ob
 | .makeSlice t len cap=>hmakeSlice P t (e len) (e cap) nid ob K
 |_=>False
section
variable {P:Program}{c:Ctx}{M M':Nat→Prop}{fr:Fr}{ob:Ob}{a:Act}{w:World}{ρ:Env}
theorem RepA'.weaken (h:RepA' c M fr ob a w ρ)(I: ∀i,M i→M' i):RepA' c M' fr ob a w ρ:=
 ⟨h.s,h.f,fun t=>HV.men_mono I (h.mf t),fun id o U=>⟨I _ (h.mo id o U).1,by
  have J:=(h.mo id o U).2;cases o with
  |box t v=>exact HV.men_mono I J
  |row _ _ _=>trivial
  |mp _ _ _=>trivial
  |dead=>trivial
  |tab _=>trivial
  |hrow _ _ _=>exact HV.menL_mono I J
  |raw _ _=>trivial
  |it _ _ _ _=>exact I _ J⟩,fun id hid=>I _ (h.m0 id hid),h.base,h.moves,h.defers,h.size,h.xlt⟩
def Gives (P:Program)(o:Oper)(a:Act)(w:World)(R:Value→World→Prop):Prop:=
 ∃y w',R y w'∧((execOp a.eval o).run P w= .ok (.value y) w'∨((execOp a.eval o).run P w= .ok .skip w'∧y=undef))
theorem Gives.val {o:Oper}{R:Value→World→Prop}{y:Value}{w':World}(h:(execOp a.eval o).run P w= .ok (.value y) w')(I:R y w'):Gives P o a w R:=⟨y,w',I,.inl h⟩
theorem aX1 (h:RepA' c M fr ob a w ρ): ∀(l:List Operand),(∀v∈l.map (ev fr),v≠ .junk)→RepHV w ρ (Owned ρ c.X) (l.map (ev fr)) (l.map a.eval)
 |[],_=>by simp[RepHV]
 |x::xs,hj=>by
  simp only[B8,bJ];exact⟨_,_,rfl,h.ev x (hj _ (by simp)),aX1 h xs (fun v I=>hj v (by grind))⟩
theorem bN6 (h:RepA' c M fr ob a w ρ): ∀(l:List Operand),HV.menL M (l.map (ev fr))
 |[]=>by simp[HV.menL]
 |x::xs=>by simp only[B8,HV.menL];exact⟨h.evm x,bN6 h xs⟩
theorem iG {op:BinOp}{t:TypeId}{x y:Operand}{u v:Value}(I:u≠ .nilIface)(J:Value.isAgg' u=true→P.eqGuardType P.depth t=false):(eqGuard op t x y u v).run P w= .ok () w:=by
 have key:op= .eql∨op= .neq→(eqGuard op t x y u v).run P w= .ok () w:=by
  rintro(rfl|rfl)<;>unfold eqGuard<;>cases u<;>first|exact absurd rfl I|(cases v<;>first|rfl|simp[J rfl])
 cases op<;>first|exact key (.inl rfl)|exact key (.inr rfl)|rfl
theorem cD4 {x:Value}{cs:List Value}(h:Value.isAgg' x=true)(e:x.cells.toList=cs):x= .agg cs.toArray:=by
 cases x<;>simp[Value.isAgg']at h;simp only[Value.cells]at e;rw[←e]
theorem aK2 {w:World}{ρ:Env}{O:Nat→Prop}{v:HV}: ∀{l:List HV} {xs:List Value} {i:Nat},RepHV w ρ O l xs→l[i]? =some v→ ∃x,xs[i]? =some x∧RepV w ρ O v x
 |[],xs,i,_,hi=>by grind
 |u::us,xs,0,h,hi=>by
  rw[bJ]at h;grind
 |u::us,xs,i+1,h,hi=>by
  rw[bJ]at h;obtain⟨y,J,rfl,U,I⟩:=h;simp only[M2]at hi⊢;exact aK2 I hi
theorem aX2 {M:Nat→Prop}{v:HV}: ∀{l:List HV} {i:Nat},HV.menL M l→l[i]? =some v→v.men M
 |[],i,_,hi=>by grind
 |u::us,0,h,hi=>by grind[List.getElem?_cons_zero,Option.some.injEq,HV.menL]
 |u::us,i+1,h,hi=>by simp only[M2]at hi;simp only[HV.menL]at h;exact aX2 h.2 hi
theorem xZ {t:TypeId}{ti:TyI}{i:TypeInfo}{d:TypeDesc}{zv:Value}(I:TyOk P t ti i d zv)(hp:ti.d.plain=true): ∀ms,d≠ .interface ms:=by
 intro ms e;have:=I.d_;rw[e]at this;rw[←this]at hp;cases hp
theorem aI1 (h:RepA' c M fr ob a w ρ){t:TypeId}{x:Operand}{K:HV→Prop}(hl:hmkIface P t (ev fr x) K):
  ∃u y,K u∧(Instr.makeInterface t (a.eval x)).run P w= .ok y w∧RepV w ρ (Owned ρ c.X) u y∧u.men M:=by
 unfold hmkIface at hl;rw[aD]at hl;obtain⟨ti,ht,hl⟩:=hl;split at hl
 ·
  rename_i v hx;obtain⟨hp,hK⟩:=hl;obtain⟨i,d,zv,I⟩:=bF ht;have U:=h.ev x (by rw[hx];simp);rw[hx]at U;obtain⟨r1,r2⟩:=U;simp only[RepH]at r1;refine⟨_,.iface t (a.eval x),hK,?_,bQ ?_ rfl rfl,by simp[HV.men]⟩
  · have J:=xZ I hp;have hu:=D4 (w:=w) I.under;unfold Instr.makeInterface;clear I;cases d<;>first|exact absurd rfl (J _)|simp[hu]
  · simp only[RepC];have e:eN v.isAgg (a.eval x).cells.toList=a.eval x:=mQ _ _ r2.symm;exact⟨_,r1,by rw[e]⟩
 · exact hl.elim
theorem aR3 (h:RepA' c M fr ob a w ρ){s t:TypeId}{x:Operand}{K:HV→Prop}(hl:hassert P t (ev fr x) K):
  ∃u y,K u∧(Instr.typeAssert (a.eval x) s t true).run P w= .ok y w∧RepV w ρ (Owned ρ c.X) u y∧u.men M:=by
 unfold hassert at hl;rw[aD]at hl;obtain⟨ti,ht,hl⟩:=hl;split at hl
 ·
  rename_i t' v hx;obtain⟨hp,J⟩:=hl;obtain⟨i,d,zv,I⟩:=bF ht;have U:=xZ I hp;have hr:=h.ev x (by rw[hx];simp);rw[hx]at hr;have hs:=hr.single rfl;simp only[RepC,F8,J9]at hs;obtain⟨xs,r1,he⟩:=hs;have hz:(zeroValue t).run P w= .ok zv w:=by simp[zeroValue,typeInfo,I.info,I.zero]
  have run:(Instr.typeAssert (a.eval x) s t true).run P w=(if t'=t then Result.ok (.tuple #[eN v.isAgg xs,.bool true]) w else .ok (.tuple #[zv,.bool false]) w):=by
   have hu:=D4 (w:=w) I.under;unfold Instr.typeAssert;rw[he];clear I;cases d<;>first|exact absurd rfl (U _)|(by_cases e:t'=t<;>simp[hu,e,hz])
  by_cases e:t'=t
  · rw[B1 e]at J run;refine⟨_,_,J,run,dD ?_ rfl rfl,by simp[HV.men,HV.menL]⟩;simp only[RepH];refine⟨[eN v.isAgg xs,.bool true],rfl,?_⟩;rw[bJ];refine⟨_,_,rfl,iF (by simpa only[RepH]using r1) rfl rfl,?_⟩;rw[bJ];exact⟨_,_,rfl,jP _ _ _ _,by simp[RepHV]⟩
  · rw[A7 e]at J run;refine⟨_,_,J,run,dD ?_ rfl rfl,by simp[HV.men,HV.menL]⟩;simp only[RepH];refine⟨[zv,.bool false],rfl,?_⟩;rw[bJ];refine⟨_,_,rfl,⟨by simp only[RepH];exact I.rep w _,by rw[HV.isAgg,I.agg]⟩,?_⟩;rw[bJ];exact⟨_,_,rfl,jP _ _ _ _,by simp[RepHV]⟩
 · exact hl.elim
theorem zF (h:RepA' c M fr ob a w ρ){nid:Nat}(hn: ¬M nid)(hM: ∀i,M i→M' i)(ad:M' nid){t:TypeId}{len cap:Operand}{K:HV→Ob→Prop}
  (hl:hmakeSlice P t (ev fr len) (ev fr cap) nid ob K) (d:Option Nat) (hd: ∀k,d=some k→k<c.n):
  ∃v ob' y w' ρ',K v ob'∧(Instr.makeSlice t (a.eval len) (a.eval cap)).run P w= .ok y w'∧RepA' c M' (updo fr d v) ob' (a.put d y) w' ρ':=by
 unfold hmakeSlice at hl;rw[aD]at hl;obtain⟨ti,ht,hl⟩:=hl;obtain⟨i0,d0,bc,ag⟩:=bF ht;split at hl
 ·
  rename_i e k1 l k2 m ai hlen ab;rw[aD]at hl;obtain⟨te,au,hl⟩:=hl;obtain⟨ie,de,ae,I⟩:=bF au;have U:=ag.d_;by_cases aq:l=0
  rotate_left
  ·
   rw[A7 aq]at hl;obtain⟨⟨h0,rfl,aa,h1,h2⟩,hK⟩:=hl;obtain⟨n,rfl⟩: ∃n:Nat,l=n:=⟨l.toNat,by omega⟩;rw[ai]at U;have hu:P.underlying t=some (.slice e):=by
    rw[ag.under];congr 1;cases d0<;>simp[tyd]at U;rw[U]
   have ar:=I.zsize;rw[aa]at ar;obtain⟨x,hx⟩:=Array.size_eq_one_iff.1 ar;have J:=run_make (P:=P) w t e ie ae hu I.info I.zero k1 k2 (n:Int) (n:Int) h0 (BD _) (by rw[I.bytes,Int.mul_comm];omega) (by omega);simp only[A6]at J hK;rw[I.size,aa,P4,hx]at J;refine⟨_,_,_,_,_,hK,by rw[eC h hlen,eC h ab];exact J,h.newObj (w1:=w) (L:= .hdr (.slice (some ⟨w.heap.size,0,none⟩) n n)) hn hM ad rfl rfl rfl rfl (fun b hb=>by simpa[Loc.has,Value.ownBlock]using hb.symm) (fun ay=>?_) trivial (.inr ?_) (by simpa[HV.men]using ad) hd⟩
   ·
    have ba: ∀(w:World) (O:Nat→Prop) (n:Nat),RepL w O (List.replicate n te.z) (List.replicate n x):=by
     intro w O n;induction n with
     |zero=>simp[RepL]
     |succ n ih=>
      simp only[Y2,RepL];exact⟨[x],_,rfl,by have:=I.rep w O;rw[hx]at this;exact this,ih⟩
    have az:te.z.cells=1:=by rw[←bK (I.rep w (fun _=>False)),hx];rfl
    refine⟨_,List.replicate n x,aR _ _ _,ba _ _ n,fun v hv=>by rw[(CB.1 hv).2,az,aa],by simp[aa],.inr ⟨w.heap.size,n,madeCells #[x] n,by rw[W7],I1 _,N4 w _,by rw[W7];exact E3 _,by unfold maxLen;omega,by rw[size_madeCells,aa,P4],?_⟩⟩;rw[toList_madeCells_one,aa,W7,P4,C8 (by simp)]
   · refine dD ?_ rfl rfl;simp only[RepH];refine⟨_,rfl,by simp[Value.oneCell'],fun ax hρ=>?_⟩;rw[aR]at hρ;cases hρ;exact⟨E3 _,fun _=>rfl⟩
  rw[B1 aq]at hl;obtain⟨⟨rfl,h0,h1,h2⟩,hK⟩:=hl;obtain⟨n,rfl⟩: ∃n:Nat,m=n:=⟨m.toNat,by omega⟩;rw[ai]at U;have hu:P.underlying t=some (.slice e):=by
   rw[ag.under];congr 1;cases d0<;>simp[tyd]at U;rw[U]
  have bb:=I.pos;have ak:(sizeOf e).run P w= .ok te.size w:=by rw[bS I.info,I.size]
  have hzero:(zeroValue e).run P w= .ok ae w:=by simp[zeroValue,typeInfo,I.info,I.zero]
  have an:IntKind.i64.wrap (n:Int)=n:=by simp[IntKind.wrap,IntKind.bits,IntKind.signed];omega
  have ah: ¬(281474976710656<(ie.bytes:Int)*n):=by rw[I.bytes,Int.mul_comm];omega
  have ao: ¬(roomBytes<n*ie.bytes):=by
   rw[I.bytes];have:((n*te.bytes:Nat):Int)≤140737488355328:=by push_cast;exact h1
   have:n*te.bytes≤140737488355328:=by omega
   unfold roomBytes;omega
  have aj:IntKind.i64.wrap 0=0:=rfl;have af: ¬((n:Int)<0):=by omega
  obtain⟨cells,J,aw⟩: ∃cells:Array Value,(Instr.makeSlice t (a.eval len) (a.eval cap)).run P w= .ok (.slice (some ⟨w.heap.size,0,none⟩) 0 n) (w.alloc (.cells cells e))∧cells.size=n*te.size:=by
   by_cases hz:n*te.size=0
   · refine⟨#[],?_,by simp[hz]⟩;rw[eC h hlen,eC h ab];simp[Instr.makeSlice,D4 hu,asInt,asIntOf,typeInfo,I.info,an,aj,af,ah,ao,askRoom,ak,hz,newRow];congr 2;exact Array.ext (by simp) (by simp)
   · refine⟨(Array.range (n*te.size)).map (ae.cells[· %ae.cells.size]!),?_,by simp⟩;rw[eC h hlen,eC h ab];simp[Instr.makeSlice,D4 hu,asInt,asIntOf,typeInfo,I.info,an,aj,af,ah,ao,askRoom,ak,hz,hzero,newRow]
  refine⟨_,_,_,_,_,hK,J,h.newObj (w1:=w) (L:= .hdr (.slice (some ⟨w.heap.size,0,none⟩) 0 n)) hn hM ad rfl rfl rfl rfl (fun b hb=>by simpa[Loc.has,Value.ownBlock]using hb.symm) (fun ay=>?_) trivial (.inr ?_) (by simpa[HV.men]using ad) hd⟩
  · refine⟨_,[],aR _ _ _,by simp[RepL],by simp,by simp,.inr ⟨w.heap.size,n,cells,rfl,I1 _,N4 w _,I1 _,by unfold maxLen;omega,aw,by simp⟩⟩
  · refine dD ?_ rfl rfl;simp only[RepH];refine⟨_,rfl,by simp[Value.oneCell'],fun ax hρ=>?_⟩;rw[aR]at hρ;cases hρ;exact⟨E3 _,fun _=>rfl⟩
 grind
theorem aK3 (h:RepA' c M fr ob a w ρ){nid:Nat}(hn: ¬M nid)(hM: ∀i,M i→M' i)(aq:M' nid){o:Oper}{K:HV→Ob→Prop}(hl:hop P nid o.op (ev fr) ob K)(hd: ∀k,o.dst=some k→k<c.n):
  Gives P o a w fun y w'=> ∃v ob' ρ',K v ob'∧RepA' c M' (updo fr o.dst v) ob' (a.put o.dst y) w' ρ':=by
 have I: ∀{v:HV} {y:Value},K v ob→(execOp a.eval o).run P w= .ok (.value y) w→RepV w ρ (Owned ρ c.X) v y→v.men M→
   Gives P o a w fun y w'=> ∃v ob' ρ',K v ob'∧RepA' c M' (updo fr o.dst v) ob' (a.put o.dst y) w' ρ':=fun U hr hv hm=>
  .val hr ⟨_,_,_,U,(h.value (.inr hv) hm hd).weaken hM⟩
 unfold hop at hl;split at hl
 · rename_i x J;exact I hl.2 (by simp[execOp,J]) (h.ev x hl.1) (h.evm x)
 · rename_i x J;exact I hl.2 (by simp[execOp,J]) (h.ev x hl.1) (h.evm x)
 ·
  rename_i cc x y J;unfold hpick at hl;split at hl
  ·
   rename_i t hc;have hb:=qU h hc;cases t with
   |true=>exact I hl.2 (by simp[execOp,J,hb,asBool]) (h.ev x (by simpa using hl.1)) (by simpa using h.evm x)
   |false=>exact I hl.2 (by simp[execOp,J,hb,asBool]) (h.ev y (by simpa using hl.1)) (by simpa using h.evm y)
  · exact hl.elim
 · rename_i t J;rw[aD]at hl;obtain⟨ti,ht,U⟩:=hl;obtain⟨y,w',ρ',hr,hA⟩:=aW2 (P:=P) h hn hM aq ht o.dst hd;exact .val (by simp[execOp,J,hr]) ⟨_,_,_,U,hA⟩
 · rename_i t x J;obtain⟨y,w',ρ',hr,hA⟩:=bT5 (P:=P) h hn hM aq (t:=t) hl.1 o.dst hd;exact .val (by simp[execOp,J,hr]) ⟨_,_,_,hl.2,hA⟩
 · rename_i t parts J;rw[aD]at hl;obtain⟨ti,ht,hl⟩:=hl;obtain⟨u,y,U,hr,hv,hm⟩:=aW7 h ht hl;exact I U (by simp[execOp,J,hr]) hv hm
 ·
  rename_i t len parts J;rw[aD]at hl;obtain⟨ti,ht,hl⟩:=hl;split at hl
  · rename_i el br;rw[aD]at hl;obtain⟨te,au,hl⟩:=hl;rw[aD]at hl;obtain⟨l,bm,⟨h1,h2⟩,U⟩:=hl;obtain⟨y,w',ρ',hr,hA⟩:=wN h hn hM aq ht br au bm h1 h2 o.dst hd;exact .val (by simp[execOp,J,hr]) ⟨_,_,_,U,hA⟩
  · exact hl.elim
 · rename_i t x J;rw[aD]at hl;obtain⟨ti,ht,hl⟩:=hl;obtain⟨u,y,U,hr,hv,hm⟩:=zY h ht hl;exact I U (by simp[execOp,J,hr]) hv hm
 · rename_i t x y J;rw[aD]at hl;obtain⟨ti,ht,hl⟩:=hl;obtain⟨ob',w',U,hr,hA⟩:=aW1 h ht hl;exact⟨undef,w',⟨_,_,_,U,(hA o.dst undef hd).weaken hM⟩,.inr ⟨by simp[execOp,J,hr],rfl⟩⟩
 ·
  rename_i x J;obtain⟨an,U⟩:=hl;have hj:ev fr x≠ .junk:=by intro e;rw[e]at an;exact an
  refine I U ?_ (h.ev x hj) (h.evm x);unfold live at an;split at an
  · rename_i v hx;obtain⟨ad,xs,he,_⟩:=bN1 h hx;simp[execOp,J,he]
  · rename_i f hx;have hr:=h.ev x hj;rw[hx]at hr;have:=hr.single rfl;simp only[RepC,F8,J9]at this;simp[execOp,J,this]
  · rename_i f caps hx;have hr:=dO (h.ev x hj) (by rw[hx];rfl);rw[hx]at hr;simp only[RepH,F8,J9]at hr;obtain⟨⟨xs,he,_⟩,_⟩:=hr;simp[execOp,J,he]
  · rename_i id off hx;obtain⟨b,_,he⟩:=lR h hx an;simp[execOp,J,he]
  · rename_i id n i sz off hx;obtain⟨g,cap,_,he⟩:=qV h hx an;simp[execOp,J,he]
  · exact an.elim
 ·
  rename_i op t x y yt J;unfold kK at hl;have run: ∀z,(eqGuard op t x y (a.eval x) (a.eval y)).run P w= .ok () w→(binOp op t (a.eval x) (a.eval y)).run P w= .ok z w→(execOp a.eval o).run P w= .ok (.value z) w:=fun z h1 h2=>by simp[execOp,J,h1,h2]
  split at hl
  · rename_i k i1 k' i2 hx hy;obtain⟨u,U,hs,hr⟩:=aH6 (P:=P) (t:=t) hl;have ex:=eC h hx;have ey:=eC h hy;exact I U (run _ (by rw[ex];exact iG (by simp) (by simp[Value.isAgg'])) (by rw[ex,ey];exact hr w)) (CV.val_rep hs) (by simp[HV.men])
  · rename_i s1 s2 hx hy;obtain⟨u,U,hs,hr⟩:=aH7 (P:=P) (t:=t) hl;have ex:=nA h hx;have ey:=nA h hy;exact I U (run _ (by rw[ex];exact iG (by simp) (by simp[Value.isAgg'])) (by rw[ex,ey];exact hr w)) (CV.val_rep hs) (by simp[HV.men])
  ·
   rename_i b1 b2 hx hy;rw[aD]at hl;obtain⟨ti,ht,af,hl⟩:=hl;obtain⟨i,d,zv,ah⟩:=bF ht;have hu:P.underlying t=some .bool:=by
    have:=ah.d_;rw[af]at this;rw[ah.under];congr 1;cases d<;>simp[tyd]at this;rfl
   have ex:=qU h hx;have ey:=qU h hy;have hq:=run_equal_bool (P:=P) w t b1 b2 hu;split at hl
   · exact I hl (run _ (by rw[ex];exact iG (by simp) (by simp[Value.isAgg'])) (by rw[ex,ey];simp[binOp,hq])) (jP _ _ _ _) (by simp[HV.men])
   · exact I hl (run _ (by rw[ex];exact iG (by simp) (by simp[Value.isAgg'])) (by rw[ex,ey];simp[binOp,hq])) (jP _ _ _ _) (by simp[HV.men])
   · exact hl.elim
  ·
   rename_i l1 l2 hx hy;obtain⟨⟨h1,h2,h3⟩,hl⟩:=hl;simp only[aJ9,B3,N1]at h1;have bh:=h.ev x (by rw[hx];simp);have bl:=h.ev y (by rw[hy];simp);rw[hx]at bh;rw[hy]at bl;obtain⟨bk,bc⟩:=bh;obtain⟨bj,ay⟩:=bl;simp only[RepH]at bk bj;have hq:=(aQ7 (P:=P) 9992 8 t h1.1 w _ _ _ _ _ _ h2 h3 bk bj).1;have mx:eN (CV.agg l1).isAgg (a.eval x).cells.toList=a.eval x:=mQ _ _ bc.symm;have my:eN (CV.agg l2).isAgg (a.eval y).cells.toList=a.eval y:=mQ _ _ ay.symm;rw[mx,my]at hq;have aw: ∃cs,a.eval x= .agg cs:=by
    cases hv:a.eval x<;>rw[hv]at bc<;>simp[HV.isAgg,CV.isAgg,Value.isAgg']at bc;exact⟨_,rfl⟩
   obtain⟨cs,ax⟩:=aw;have cb: ∃cs,a.eval y= .agg cs:=by
    cases hv:a.eval y<;>rw[hv]at ay<;>simp[HV.isAgg,CV.isAgg,Value.isAgg']at ay;exact⟨_,rfl⟩
   obtain⟨ds,bb⟩:=cb;have bd:(Op.equal t (.agg cs) (.agg ds)).run P w= .ok ((CV.agg l1).eqv (.agg l2)) w:=by rw[←ax,←bb];exact hq
   have hg:=iG (P:=P) (w:=w) (op:=op) (t:=t) (x:=x) (y:=y) (u:=a.eval x) (v:=a.eval y) (by rw[ax];simp) (fun _=>h1.2);split at hl
   · exact I hl (run _ hg (by rw[ax,bb];simp[binOp,bd])) (jP _ _ _ _) (by simp[HV.men])
   · exact I hl (run _ hg (by rw[ax,bb];simp[binOp,bd])) (jP _ _ _ _) (by simp[HV.men])
   · exact hl.elim
  · exact hl.elim
 ·
  rename_i op t x J;unfold hun at hl;split at hl
  · rename_i b hx;have ex:=qU h hx;exact I hl (by simp[execOp,J,ex,Op.unary]) (jP _ _ _ _) (by simp[HV.men])
  · rename_i k n hx;have ex:=eC h hx;exact I hl (by simp[execOp,J,ex,Op.unary,Op.intArith]) (eU _ _ _ _ _) (by simp[HV.men])
  · rename_i k n hx;have ex:=eC h hx;exact I hl (by simp[execOp,J,ex,Op.unary,Op.intBits]) (eU _ _ _ _ _) (by simp[HV.men])
  · exact hl.1.elim
  · exact hl.elim
 ·
  rename_i sr ds x J;unfold hconv at hl;rw[aD]at hl;obtain⟨ts,bo,hl⟩:=hl;rw[aD]at hl;obtain⟨td,bq,hl⟩:=hl;obtain⟨is,dd,zs,hs⟩:=bF bo;obtain⟨id',ba,zd,ao⟩:=bF bq;split at hl
  ·
   rename_i k k' n af hx;have ex:=eC h hx;have hu:P.underlying ds=some (.int k):=by
    have:=ao.d_;rw[af]at this;rw[ao.under];congr 1;cases ba<;>simp[tyd]at this;rw[this]
   refine I hl ?_ (eU _ _ _ _ _) (by simp[HV.men]);simp[execOp,J,ex,convert,D4 hs.under,D4 hu,Conv.intToInt]
  ·
   rename_i s af hx;have ex:=nA h hx;have hu:P.underlying ds=some .string:=by
    have:=ao.d_;rw[af]at this;rw[ao.under];congr 1;cases ba<;>simp[tyd]at this;rfl
   refine I hl ?_ (tW _ _ _ _) (by simp[HV.men]);simp[execOp,J,ex,convert,D4 hs.under,D4 hu]
  ·
   rename_i e l af cd hx;rw[aD]at hl;obtain⟨te,au,h8,hl⟩:=hl;rw[aD]at hl;obtain⟨bs,ca,U⟩:=hl;obtain⟨ie,de,bu,aj⟩:=bF au;have u1:P.underlying sr=some (.slice e):=by
    have:=hs.d_;rw[af]at this;rw[hs.under];congr 1;cases dd<;>simp[tyd]at this;rw[this]
   have u2:P.underlying ds=some .string:=by
    have:=ao.d_;rw[cd]at this;rw[ao.under];congr 1;cases ba<;>simp[tyd]at this;rfl
   have u3:P.underlying e=some (.int .u8):=by
    have:=aj.d_;rw[h8]at this;rw[aj.under];congr 1;cases de<;>simp[tyd]at this;rw[this]
   have hr:=bG6 h u1 u3 u2 hx ca;exact I U (by simp[execOp,J,hr]) (tW _ _ _ _) (by simp[HV.men])
  · exact hl.elim
 ·
  rename_i f first caps J
  obtain⟨rfl,hl⟩:=hl;unfold hclo at hl;split at hl
  ·
   rename_i hc;have bn:caps= #[]:=by
    have:caps.toList=[]:=by simpa using hc
    exact Array.toList_eq_nil_iff.1 this
   subst bn;exact I (y:= .func (.func f) #[] #[]) hl (by simp[execOp,J,Instr.makeFunc]) (bQ (by simp[RepC]) rfl rfl) (by simp[HV.men])
  ·
   obtain⟨hj,U⟩:=hl;have hr:=aX1 h caps.toList hj;refine I (y:= .func (.func f) #[] (caps.map a.eval)) U (by simp[execOp,J,Instr.makeFunc]) (dD ?_ rfl rfl) (by simp only[HV.men];exact bN6 h _);simp only[RepH];have e:caps.map a.eval=(caps.toList.map a.eval).toArray:=by rw[←Array.toList_map,T7]
   exact⟨caps.toList.map a.eval,by rw[e],hr⟩
 · rename_i t x lo hi J;obtain⟨u,y,U,hr,hv,hm⟩:=aR1 h hl;exact I U (by simp[execOp,J,hr]) hv hm
 · rename_i t x lo hi mx J;obtain⟨u,y,U,hr,hv,hm⟩:=aQ9 h hl;exact I U (by simp[execOp,J,hr]) hv hm
 · rename_i t J;obtain⟨v,ob',y,w',ρ',U,hr,hA⟩:=aH8 h hn hM aq hl o.dst hd;exact .val (by simp[execOp,J,hr]) ⟨_,_,_,U,hA⟩
 · rename_i t m k J;obtain⟨u,y,U,hr,hv,hm⟩:=aR2 h hl;exact I U (by simp[execOp,J,hr]) hv hm
 · rename_i t m k v J;obtain⟨ob',w',U,hr,hA⟩:=zE h hl;exact⟨undef,w',⟨_,_,_,U,(hA o.dst undef hd).weaken hM⟩,.inr ⟨by simp[execOp,J,hr],rfl⟩⟩
 · rename_i t x f J;obtain⟨u,y,U,hr,hv,hm⟩:=zC h hl;exact I U (by simp[execOp,J,hr]) hv hm
 · rename_i t x f J;obtain⟨⟨ha,hs⟩,hl⟩:=hl;obtain⟨fs,fd,tf,i,d,zv,hu,hf,ah,U⟩:=wL hl;rw[aD]at U;obtain⟨u,hg,U⟩:=U;have hr:=h.ev x (by intro e;rw[e]at hs;simp[HV.sto]at hs);obtain⟨c1,c2,c3,e0,e1,e2,e3,e4,e5,e6⟩:=HV.getAt_spec hg hs hr.1;have aw:a.eval x= .agg (c1++c2++c3).toArray:=cD4 (by rw[←hr.2,ha]) e0;have hp:=lJ (w:=w) ah c1 c2 c3 e2;rw[e1]at hp;refine I U ?_ (iF e3 e4 e5) (e6 M (h.evm x));simp[execOp,J,aw,Instr.field,D4 hu,hf,asAgg];simpa using congrArg (fun r=>Result.andThen r fun v w'=>Result.ok (Next.value v) w') hp
 · rename_i t x i J;obtain⟨u,y,U,hr,hv,hm⟩:=zD h hl;exact I U (by simp[execOp,J,hr]) hv hm
 ·
  rename_i t x ix J;unfold hindex at hl;rw[aD]at hl;obtain⟨ti,ht,hl⟩:=hl;obtain⟨i0,d0,bx,ah⟩:=bF ht;have ag:=ah.d_;split at hl
  ·
   rename_i s k i af hx hi;obtain⟨⟨h0,h1⟩,U⟩:=hl;rw[af]at ag;have hu:P.underlying t=some .string:=by rw[ah.under];congr 1;cases d0<;>simp[tyd]at ag;rfl
   have bg:i.toNat<s.length:=by omega
   have bf:(⟨s.toArray⟩:ByteArray)[i.toNat]? =some (s.getD i.toNat 0):=by
    have ar:(⟨s.toArray⟩:ByteArray).size=s.length:=by simp[ByteArray.size]
    rw[getElem?_pos _ _ (by rw[ar];exact bg)];simp[ByteArray.getElem_eq_getElem_data,bg]
   refine I U ?_ (eU _ _ _ _ _) (by simp[HV.men]);simp[execOp,J,nA h hx,eC h hi,Instr.index,asIntOf,D4 hu,h0,bf]
  ·
   rename_i m e k i af hi;rw[af]at ag;have hu:P.underlying t=some (.array m e):=by rw[ah.under];congr 1;cases d0<;>simp[tyd]at ag;rw[ag.1,ag.2]
   rw[aD]at hl;obtain⟨te,au,⟨ha,hs,h0,h1⟩,hl⟩:=hl;obtain⟨ie,de,bu,aj⟩:=bF au;rw[aD]at hl;obtain⟨u,hg,U⟩:=hl;have hr:=h.ev x (by intro e;rw[e]at hs;simp[HV.sto]at hs);obtain⟨c1,c2,c3,e0,e1,e2,e3,e4,e5,e6⟩:=HV.getAt_spec hg hs hr.1;have aw:a.eval x= .agg (c1++c2++c3).toArray:=cD4 (by rw[←hr.2,ha]) e0;have hp:=lJ (w:=w) aj c1 c2 c3 e2;rw[e1]at hp;refine I U ?_ (iF e3 e4 e5) (e6 M (h.evm x));have ar:(sizeOf e).run P w= .ok te.size w:=by rw[bS aj.info,aj.size]
   simp only[execOp,J,aw,Instr.index,asIntOf,eC h hi,G6,I7,E6,D4 hu,h0,h1,I4,G4,ar,hp]
  · exact hl.elim
 ·
  rename_i x i J;unfold hext at hl;split at hl
  · rename_i l hx;rw[aD]at hl;obtain⟨v,hv,hj,U⟩:=hl;have hr:=dO (h.ev x (by rw[hx];simp)) (by rw[hx];rfl);have hm:=h.evm x;rw[hx]at hr hm;simp only[RepH,F8,J9,HV.men]at hr hm;obtain⟨⟨xs,he,bz⟩,_⟩:=hr;obtain⟨y,hy,bp⟩:=aK2 bz hv;exact I U (by simp[execOp,J,he,Instr.extract,hy]) bp (aX2 hm hv)
  · exact hl.elim
 ·
  rename_i cl J;split at hl
  ·
   rename_i x t ae ab ak;have aa:cl.args= #[x]:=by rw[←Array.toArray_toList (xs:=cl.args),ab]
   have ai:cl.argTypes= #[t]:=by rw[←Array.toArray_toList (xs:=cl.argTypes),ak]
   rw[aD]at hl;obtain⟨ti,ht,hl⟩:=hl;obtain⟨i0,d0,bx,ah⟩:=bF ht;have ag:=ah.d_;have run: ∀z,(Builtin.len_ #[t] o.type #[a.eval x]).run P w= .ok z w→(execOp a.eval o).run P w= .ok (.value z) w:=fun z hz=>by simp[execOp,J,resolve,ae,aa,ai,invoke,builtin,hz]
   split at hl
   ·
    rename_i af;rw[af]at ag;have hu:P.underlying t=some .string:=by rw[ah.under];congr 1;cases d0<;>simp[tyd]at ag;rfl
    rw[aD]at hl;obtain⟨n,az,U⟩:=hl;split at az
    ·
     rename_i s hx;cases az;refine I U (run (.int .i64 s.length) ?_) (eU _ _ _ _ _) (by simp[HV.men]);have ar:(⟨s.toArray⟩:ByteArray).size=s.length:=by simp[ByteArray.size]
     simp only[Builtin.len_,P1,M1,G6,D4 hu,E6,nA h hx,I7,goInt,ar]
    · cases az
   ·
    rename_i e af;rw[af]at ag;have hu:P.underlying t=some (.slice e):=by rw[ah.under];congr 1;cases d0<;>simp[tyd]at ag;rw[ag]
    rw[aD]at hl;obtain⟨l,bt,U⟩:=hl;obtain⟨ad,m,cap,xs,he,hm,_⟩:=kN h bt;refine I U (run (.int .i64 l.length) ?_) (eU _ _ _ _ _) (by simp[HV.men]);simp[Builtin.len_,D4 hu,he,goInt,hm]
   ·
    rename_i n e af;rw[af]at ag;have hu:P.underlying t=some (.array n e):=by rw[ah.under];congr 1;cases d0<;>simp[tyd]at ag;rw[ag.1,ag.2]
    refine I hl (run (.int .i64 n) ?_) (eU _ _ _ _ _) (by simp[HV.men]);simp[Builtin.len_,D4 hu,goInt]
   · exact hl.elim
  ·
   rename_i s x t t' ae ab ak;have aa:cl.args= #[s,x]:=by rw[←Array.toArray_toList (xs:=cl.args),ab]
   have ai:cl.argTypes= #[t,t']:=by rw[←Array.toArray_toList (xs:=cl.argTypes),ak]
   by_cases e:t'=t
   · subst e;rw[B1 rfl]at hl;obtain⟨v,ob',y,w',ρ',U,hr,hA⟩:=aH9 (P:=P) (ty:=o.type) h hn hM aq hl o.dst hd;exact .val (by simp[execOp,J,resolve,ae,aa,ai,invoke,builtin,hr]) ⟨_,_,_,U,hA⟩
   · rw[A7 e]at hl;obtain⟨v,ob',y,w',ρ',U,hr,hA⟩:=aI0 (P:=P) (ty:=o.type) h hM hl o.dst hd;exact .val (by simp[execOp,J,resolve,ae,aa,ai,invoke,builtin,hr]) ⟨_,_,_,U,hA⟩
  ·
   rename_i x y t1 t2 ae ab ak;have aa:cl.args= #[x,y]:=by rw[←Array.toArray_toList (xs:=cl.args),ab]
   unfold hmax at hl;split at hl
   · rename_i k i1 k' i2 hx hy;obtain⟨rfl,U⟩:=hl;refine I U ?_ (eU _ _ _ _ _) (by simp[HV.men]);simp[execOp,J,resolve,ae,aa,invoke,builtin,Builtin.max_,Builtin.max2,eC h hx,eC h hy]
   · exact hl.elim
  ·
   rename_i x y t1 t2 ae ab ak;have aa:cl.args= #[x,y]:=by rw[←Array.toArray_toList (xs:=cl.args),ab]
   unfold hmax at hl;split at hl
   · rename_i k i1 k' i2 hx hy;obtain⟨rfl,U⟩:=hl;refine I U ?_ (eU _ _ _ _ _) (by simp[HV.men]);simp[execOp,J,resolve,ae,aa,invoke,builtin,Builtin.min_,Builtin.min2,eC h hx,eC h hy]
   · exact hl.elim
  ·
   rename_i x t ae ab ak;have aa:cl.args= #[x]:=by rw[←Array.toArray_toList (xs:=cl.args),ab]
   have ai:cl.argTypes= #[t]:=by rw[←Array.toArray_toList (xs:=cl.argTypes),ak]
   obtain⟨ob',w',U,hr,hA⟩:=aW9 (ty:=o.type) h hl;exact .val (y:= .tuple #[]) (by simp[execOp,J,resolve,ae,aa,ai,invoke,builtin,hr]) ⟨_,_,_,U,(hA o.dst _ hd).weaken hM⟩
  ·
   rename_i x y t t' ae ab ak;have aa:cl.args= #[x,y]:=by rw[←Array.toArray_toList (xs:=cl.args),ab]
   have ai:cl.argTypes= #[t,t']:=by rw[←Array.toArray_toList (xs:=cl.argTypes),ak]
   obtain⟨v,ob',z,w',U,hr,hA⟩:=bG5 (t':=t') (ty:=o.type) h hl;exact .val (y:=z) (by simp[execOp,J,resolve,ae,aa,ai,invoke,builtin,hr]) ⟨_,_,_,U,(hA o.dst hd).weaken hM⟩
  · exact hl.elim
 · rename_i t x J;obtain⟨u,y,U,hr,hv,hm⟩:=aI1 h hl;exact I U (by simp[execOp,J,hr]) hv hm
 · rename_i x s t J;obtain⟨u,y,U,hr,hv,hm⟩:=aR3 (s:=s) h hl;exact I U (by simp[execOp,J,hr]) hv hm
 · rename_i t len cap J;obtain⟨v,ob',y,w',ρ',U,hr,hA⟩:=zF h hn hM aq hl o.dst hd;exact .val (by simp[execOp,J,hr]) ⟨_,_,_,U,hA⟩
 · exact hl.elim
end
/- Ids under other names. -/
mutual
def HV.ren (m:Nat→Nat):HV→HV
 | .junk=> .junk
 | .c v=> .c v
 | .agg l=> .agg (HV.renL m l)
 | .own id n=> .own (m id) n
 | .ptr id off=> .ptr (m id) off
 | .eptr id n i sz off=> .eptr (m id) n i sz off
 | .osl id n i sz off=> .osl (m id) n i sz off
 | .mapr id=> .mapr (m id)
 | .mrow id k n=> .mrow (m id) k n
 | .clo f caps=> .clo f (HV.renL m caps)
 | .opq v=> .opq v
 | .tup l=> .tup (HV.renL m l)
def HV.renL (m:Nat→Nat):List HV→List HV
 |[]=>[]
 |v::vs=>v.ren m::HV.renL m vs
end
theorem HV.ren_isAgg (m:Nat→Nat)(v:HV):(v.ren m).isAgg=v.isAgg:=by cases v<;>simp[HV.ren,HV.isAgg]
theorem HV.renL_c (m:Nat→Nat): ∀(l:List CV),HV.renL m (l.map .c)=l.map .c
 |[]=>rfl
 |v::vs=>by simp only[B8,HV.renL,HV.ren,HV.renL_c m vs]
def HO.ren (m:Nat→Nat):HO→HO
 | .box t v=> .box t (v.ren m)
 | .row e sz l=> .row e sz l
 | .mp e sz D=> .mp e sz D
 | .dead=> .dead
 | .tab T=> .tab T
 | .hrow e sz l=> .hrow e sz (HV.renL m l)
 | .raw es k=> .raw es k
 | .it j s q l=> .it (m j) s q l
mutual
theorem lS {w:World}{ρ:Env}{O:Nat→Prop}{m:Nat→Nat}: ∀{v:HV} {cs:List Value},RepH w ρ O (v.ren m) cs↔RepH w (fun i=>ρ (m i)) O v cs
 | .junk,cs=>by simp only[HV.ren,RepH]
 | .c _,cs=>by simp only[HV.ren,RepH]
 | .agg l,cs=>by simp only[HV.ren,RepH];exact qZ
 | .own ..,cs=>by simp only[HV.ren,RepH]
 | .ptr ..,cs=>by simp only[HV.ren,RepH]
 | .eptr ..,cs=>by simp only[HV.ren,RepH]
 | .osl ..,cs=>by simp only[HV.ren,RepH]
 | .mapr ..,cs=>by simp only[HV.ren,RepH]
 | .mrow ..,cs=>by simp only[HV.ren,RepH]
 | .clo f caps,cs=>by simp only[HV.ren,RepH,nP (l:=caps)]
 | .opq _,cs=>by simp only[HV.ren,RepH]
 | .tup l,cs=>by simp only[HV.ren,RepH,nP (l:=l)]
theorem qZ {w:World}{ρ:Env}{O:Nat→Prop}{m:Nat→Nat}: ∀{l:List HV} {cs:List Value},RepHL w ρ O (HV.renL m l) cs↔RepHL w (fun i=>ρ (m i)) O l cs
 |[],cs=>by simp only[HV.renL,RepHL]
 |v::vs,cs=>by simp only[HV.renL,RepHL,lS (v:=v),qZ (l:=vs)]
theorem nP {w:World}{ρ:Env}{O:Nat→Prop}{m:Nat→Nat}: ∀{l:List HV} {xs:List Value},RepHV w ρ O (HV.renL m l) xs↔RepHV w (fun i=>ρ (m i)) O l xs
 |[],xs=>by simp only[HV.renL,RepHV]
 |v::vs,xs=>by simp only[HV.renL,RepHV,lS (v:=v),nP (l:=vs),HV.ren_isAgg]
end
mutual
theorem men_ren {M:Nat→Prop}{m:Nat→Nat}: ∀{v:HV},(v.ren m).men M↔v.men (fun i=>M (m i))
 | .junk=>by simp only[HV.ren,HV.men]
 | .c _=>by simp only[HV.ren,HV.men]
 | .agg l=>by simp only[HV.ren,HV.men];exact pP
 | .own .. =>by simp only[HV.ren,HV.men]
 | .ptr .. =>by simp only[HV.ren,HV.men]
 | .eptr .. =>by simp only[HV.ren,HV.men]
 | .osl .. =>by simp only[HV.ren,HV.men]
 | .mapr .. =>by simp only[HV.ren,HV.men]
 | .mrow .. =>by simp only[HV.ren,HV.men]
 | .clo f caps=>by simp only[HV.ren,HV.men];exact pP
 | .opq _=>by simp only[HV.ren,HV.men]
 | .tup l=>by simp only[HV.ren,HV.men];exact pP
theorem pP {M:Nat→Prop}{m:Nat→Nat}: ∀{l:List HV},HV.menL M (HV.renL m l)↔HV.menL (fun i=>M (m i)) l
 |[]=>by simp only[HV.renL,HV.menL]
 |v::vs=>by simp only[HV.renL,HV.menL,men_ren (v:=v),pP (l:=vs)]
end
theorem pQ (m:Nat→Nat): ∀l:List HV,(HV.renL m l).length=l.length
 |[]=>rfl
 |v::vs=>by simp only[HV.renL,A8,pQ m vs]
mutual
theorem aK4 (m:Nat→Nat): ∀v:HV,(v.ren m).cells=v.cells∧(v.ren m).sto=v.sto
 | .junk=>by simp[HV.ren]
 | .c v=>by simp[HV.ren]
 | .agg l=>by simp only[HV.ren,HV.cells,HV.sto,aB0 m l,I4]
 | .own .. =>by simp[HV.ren,HV.cells,HV.sto]
 | .ptr .. =>by simp[HV.ren,HV.cells,HV.sto]
 | .eptr .. =>by simp[HV.ren,HV.cells,HV.sto]
 | .osl .. =>by simp[HV.ren,HV.cells,HV.sto]
 | .mapr .. =>by simp[HV.ren,HV.cells,HV.sto]
 | .mrow .. =>by simp[HV.ren,HV.cells,HV.sto]
 | .clo .. =>by simp[HV.ren,HV.cells,HV.sto]
 | .opq _=>by simp[HV.ren]
 | .tup _=>by simp[HV.ren,HV.cells,HV.sto]
theorem aB0 (m:Nat→Nat): ∀l:List HV,HV.cellsL (HV.renL m l)=HV.cellsL l∧HV.stoL (HV.renL m l)=HV.stoL l
 |[]=>by simp[HV.renL]
 |v::vs=>by simp only[HV.renL,HV.cellsL,HV.stoL,aK4 m v,aB0 m vs,I4]
end
theorem aB1 {sz:Nat}(m:Nat→Nat): ∀l:List HV,(∀v∈HV.renL m l,v.cells=sz∧v.sto=true)↔ ∀v∈l,v.cells=sz∧v.sto=true
 |[]=>by simp[HV.renL]
 |v::vs=>by simp only[HV.renL,BE,aB1 m vs,aK4 m v]
variable {o:HO}{M:Nat→Prop}
theorem HO.men_ren {m:Nat→Nat}:(o.ren m).men M↔o.men (fun i=>M (m i)):=by
 cases o with
 |box t v=>exact Hl.men_ren
 |row _ _ _=>exact Y5
 |mp _ _ _=>exact Y5
 |dead=>exact Y5
 |tab _=>exact Y5
 |hrow _ _ _=>exact Hl.pP
 |raw _ _=>exact Y5
 |it _ _ _ _=>exact Y5
theorem HO.men_mono {M':Nat→Prop}(h: ∀i,M i→M' i)(I:o.men M):o.men M':=by
 cases o with
 |box t v=>exact HV.men_mono h I
 |row _ _ _=>trivial
 |mp _ _ _=>trivial
 |dead=>trivial
 |tab _=>trivial
 |hrow _ _ _=>exact HV.menL_mono h I
 |raw _ _=>trivial
 |it _ _ _ _=>exact h _ I
def fC (P:Program)(f:FuncId):Bool:=
 match P.funcs[f]? with
 |some fn=>fn.body.isSome&&!(fn.name== "runtime.NumGoroutine")
 |none=>false
structure Gave (w:World)(ρ:Env)(X:Nat→Prop)(k:Nat)(r:HV)(ob':Ob)(w':World)(ρ':Env)(x:Value):Prop where
 v:RepV w' ρ' (Owned ρ' X) r x
 s:RepS w' ρ' X ob'
 mr:r.men (· <k+4)
 mo: ∀id o,ob' id=some o→id<k+4∧o.men (· <k+4)
 stay:Stay2 w (Own ρ) w' (Own ρ')
 moves:Moves (· <k) ρ ρ'
def bT6 (P:Program)(f:FuncId):Bool:=
 match P.funcs[f]? with
 |some fn=>!(fn.name== "runtime.NumGoroutine")
 |none=>false
variable {f:FuncId}{P:Program}
theorem uA (h:fC P f=true):bT6 P f=true:=by
 unfold fC at h;unfold bT6;grind
def Does (P:Program)(f:FuncId)(args:Array Value)(w:World)(R:Ending→World→Prop):Prop:=
 (fC P f=true∧Calls P f args w R)∨(fC P f=false∧ ∃x,(callFunc f args).run P w= .ok (.value x) w∧R (.returned x) w)
variable {R:Ending→World→Prop}{w:World}{args:Array Value}
theorem Does.mono {J:Ending→World→Prop}(h:Does P f args w R)(I: ∀e w',R e w'→J e w'):Does P f args w J:=
 h.imp (fun h=>⟨h.1,h.2.mono I⟩) fun⟨U,x,h2,h3⟩=>⟨U,x,h2,I _ _ h3⟩
theorem Does.of (I:fC P f=true)(h:Calls P f args w R):Does P f args w R:= .inl ⟨I,h⟩
theorem Does.calls (I:fC P f=true)(h:Does P f args w R):Calls P f args w R:=by
 rcases h with h|h;all_goals grind
def HFn (P:Program)(f:FuncId)(args:List HV)(k:Nat)(ob:Ob)(R:HV→Ob→Prop):Prop:=
 bT6 P f=true∧ ∀(w:World) (ρ:Env) (X:Nat→Prop) (xs:List Value),RepS w ρ X ob→RepHV w ρ (Owned ρ X) args xs→(∀b,X b→b<w.heap.size)→
  Does P f xs.toArray w fun e w'=> ∃r ob' ρ' x,e= .returned x∧R r ob'∧Gave w ρ X k r ob' w' ρ' x
variable {ob:Ob}
theorem HFn.mono {args:List HV}{k:Nat}{R I:HV→Ob→Prop}(h:HFn P f args k ob R)(hr: ∀r ob',R r ob'→I r ob'):HFn P f args k ob I:=
 ⟨h.1,fun w ρ X xs h1 h2 h3=>(h.2 w ρ X xs h1 h2 h3).mono fun _ _ ⟨r,ob',ρ',x,U,J,e3⟩=>⟨r,ob',ρ',x,U,hr _ _ J,e3⟩⟩
structure LocOk (k:Nat)(args:List HV)(ob:Ob):Prop where
 all: ∀j,j<k→ ∃o,ob j=some o
 none: ∀id o,ob id=some o→id<k∧o.men (· <k)
 args:HV.menL (· <k) args
def sub (σ:List Nat)(nid j:Nat):Nat:=if j<σ.length then σ.getD j 0 else nid+(j-σ.length)
def bY (ob:Ob)(σ:List Nat)(nid:Nat)(lob:Ob):Ob:=fun id=>
 match σ.findIdx? (· ==id)with
 |some j=>(lob j).map (HO.ren (sub σ nid))
 |none=>if nid≤id∧id<nid+4 then(lob (σ.length+(id-nid))).map (HO.ren (sub σ nid))else ob id
def HCall (P:Program)(av:List Nat)(f:FuncId)(args:List HV)(ob:Ob)(nid:Nat)(K:HV→Ob→Prop):Prop:=
 ∃(σ:List Nat) (largs:List HV) (lob:Ob) (R:HV→Ob→Prop),HFn P f largs σ.length lob R∧LocOk σ.length largs lob∧(σ.Nodup∧ ∀s∈σ,s∉av)∧args=HV.renL (sub σ nid) largs∧
  (∀j o,lob j=some o→ob (σ.getD j 0)=some (o.ren (sub σ nid)))∧ ∀r lob',R r lob'→r.men (· <σ.length+4)→K (r.ren (sub σ nid)) (bY ob σ nid lob')
def HCallL (P:Program)(av:List Nat)(f:FuncId)(args:List HV)(ob:Ob)(nid:Nat)(K:HV→Ob→Prop):Prop:=
 ∃(σ:List Nat) (largs:List HV) (lob:Ob) (R:HV→Ob→Prop),HFn P f largs σ.length lob R∧LocOk σ.length largs lob∧(σ.Nodup∧ ∀j,j<σ.length→σ.getD j 0∉av∨(σ.getD j 0+10000≤nid∧ ∀r lob',R r lob'→lob' j=lob j))∧
  args=HV.renL (sub σ nid) largs∧(∀j o,lob j=some o→ob (σ.getD j 0)=some (o.ren (sub σ nid)))∧ ∀r lob',R r lob'→r.men (· <σ.length+4)→K (r.ren (sub σ nid)) (bY ob σ nid lob')
theorem HCall.L {av:List Nat}{args:List HV}{nid:Nat}{K:HV→Ob→Prop}(h:HCall P av f args ob nid K):HCallL P av f args ob nid K:=by
 obtain⟨σ,I,lob,R,h1,h2,⟨h3,J⟩,U⟩:=h;exact⟨σ,I,lob,R,h1,h2,⟨h3,fun j hj=> .inl (J _ (by grind))⟩,U⟩
section
variable {P:Program}{c:Ctx}{M:Nat→Prop}{fr:Fr}{ob:Ob}{a:Act}{w:World}{ρ:Env}
theorem RepO.sub {w:World}{ρ ρ':Env}{O O':Nat→Prop}{m:Nat→Nat}{id:Nat}{o:HO}{M:Nat→Prop}(hs:Stay w O w O')(hm:Moves M (fun i=>ρ (m i)) ρ')(I:o.men M)(hid:ρ' id=ρ (m id))
  (h:RepO w ρ O (m id) (o.ren m)):RepO w ρ' O' id o:=by
 cases o with
 |box t v=>
  obtain⟨b,cs,h1,J,U⟩:=h;exact⟨b,cs,by grind,J,RepH.stay hs hm I (lS.1 U)⟩
 |row e sz l=>
  obtain⟨hd,xs,h1,J,U,h4⟩:=h;exact⟨hd,xs,by grind,J.stay hs,U,h4⟩
 |mp e sz D=>
  obtain⟨b,hf,h1,J⟩:=h;exact⟨b,hf,by grind,J.stay hs rfl (fun _ _ _ _ _=>rfl)⟩
 |dead=>exact hid.trans h
 |tab T=>exact⟨hid.trans h.1,nL hs h.2⟩
 |hrow e sz l=>
  obtain⟨hd,xs,h1,J,U,h4⟩:=h;exact⟨hd,xs,by grind,RepHL.stay hs hm I (qZ.1 J),(aB1 m l).1 U,by grind[pQ]⟩
 |raw es clock=>
  obtain⟨b,h1,J⟩:=h;exact⟨b,by grind,J⟩
 |it j since seen last=>
  obtain⟨b,x,h1,J,U⟩:=h;refine⟨b,x,by grind,J,fun bm hf h4=>?_⟩;obtain⟨L,e1,e2⟩:=hm j _ I h4;rcases e2 with rfl|⟨_,_,rfl,e3,_⟩|⟨b1,f,f',rfl,e3,_⟩
  · exact U _ _ e1
  · cases e3
  · cases e3;exact U _ _ e1
theorem RepO.unsub {w:World}{ρ ρ':Env}{O O':Nat→Prop}{m:Nat→Nat}{id:Nat}{o:HO}{M:Nat→Prop}(hs:Stay w O w O')(hm:Moves M ρ' (fun i=>ρ (m i)))(I:o.men M)(hid:ρ (m id)=ρ' id)
  (h:RepO w ρ' O id o):RepO w ρ O' (m id) (o.ren m):=by
 cases o with
 |box t v=>
  obtain⟨b,cs,h1,J,U⟩:=h;exact⟨b,cs,by grind,J,lS.2 (RepH.stay hs hm I U)⟩
 |row e sz l=>
  obtain⟨hd,xs,h1,J,U,h4⟩:=h;exact⟨hd,xs,by grind,J.stay hs,U,h4⟩
 |mp e sz D=>
  obtain⟨b,hf,h1,J⟩:=h;exact⟨b,hf,by grind,J.stay hs rfl (fun _ _ _ _ _=>rfl)⟩
 |dead=>exact hid.trans h
 |tab T=>exact⟨hid.trans h.1,nL hs h.2⟩
 |hrow e sz l=>
  obtain⟨hd,xs,h1,J,U,h4⟩:=h;exact⟨hd,xs,by grind,qZ.2 (RepHL.stay hs hm I J),(aB1 m l).2 U,by grind[pQ]⟩
 |raw es clock=>
  obtain⟨b,h1,J⟩:=h;exact⟨b,by grind,J⟩
 |it j since seen last=>
  obtain⟨b,x,h1,J,U⟩:=h;refine⟨b,x,by grind,J,fun bm hf h4=>?_⟩;obtain⟨L,e1,e2⟩:=hm j _ I h4;rcases e2 with rfl|⟨_,_,rfl,e3,_⟩|⟨b1,f,f',rfl,e3,_⟩
  · exact U _ _ e1
  · cases e3
  · cases e3;exact U _ _ e1
theorem Moves.of_eq {M:Nat→Prop}{ρ ρ':Env}(h: ∀i,M i→ρ' i=ρ i):Moves M ρ ρ':=fun i L hm I=>⟨L,by grind,.inl rfl⟩
theorem Stay.same {w:World}{O O':Nat→Prop}(h: ∀b,b<w.heap.size→O' b→O b):Stay w O w O':=⟨fun b J I=>⟨rfl,fun h'=>I (h b J.lt h')⟩⟩
theorem eP {σ:List Nat}(hn:σ.Nodup){j:Nat}(I:j<σ.length):σ.findIdx? (· ==σ.getD j 0)=some j:=by
 rw[O0];refine⟨I,by grind,fun i hi=>?_⟩;have J:i<σ.length:=by omega
 simp only[B4,A9 I,E9,I6];grind[List.pairwise_iff_getElem]
theorem aX3 (h:RepA' c M fr ob a w ρ){nid:Nat}(ar: ∀i,i<4→ ¬M (nid+i)){M':Nat→Prop}(hM: ∀i,M i→M' i)(bt: ∀i,i<4→M' (nid+i)){f:FuncId}{args:List HV}{K:HV→Ob→Prop}
  {ys:List Value} (hx:RepHV w ρ (Owned ρ c.X) args ys)
  {av:List Nat} (hl:HCallL P av f args ob nid K) (d:Option Nat) (hd: ∀k,d=some k→k<c.n):
  bT6 P f=true∧Does P f ys.toArray w fun e w'=> ∃y v ob' ρ',e= .returned y∧K v ob'∧RepA' c M' (updo fr d v) ob' (a.put d y) w' ρ':=by
 obtain⟨σ,bg,lob,R,⟨cc,hF⟩,an,⟨ay,_⟩,bd,ca,hK⟩:=hl;refine⟨cc,?_⟩;have br: ∀j,j<σ.length→ ∃o,lob j=some o∧ob (σ.getD j 0)=some (o.ren (sub σ nid)):=fun j I=>by
  obtain⟨o,ho⟩:=an.all j I;grind
 have bj: ∀j,j<σ.length→M (σ.getD j 0):=fun j I=>by
  obtain⟨o,_,U⟩:=br j I;exact(h.mo _ _ U).1
 let ρc:Env:=fun j=>if j<σ.length then ρ (σ.getD j 0)else none
 let X':Nat→Prop:=fun b=>c.X b∨ ∃id L,id∉σ∧ρ id=some L∧L.has b
 have af: ∀j,j<σ.length→ρc j=ρ (σ.getD j 0):=fun j I=>B1 I;have aw: ∀id,id∈σ→ ∃j,j<σ.length∧σ.getD j 0=id:=fun id hid=>by grind[List.mem_iff_getElem,List.getElem?_eq_getElem]
 have bn: ∀j,j<σ.length→σ.getD j 0∈σ:=fun j I=>by grind
 have ab: ∀j,j<σ.length→sub σ nid j=σ.getD j 0:=fun j I=>B1 I;have bb: ∀b,Owned ρ c.X b↔Owned ρc X' b:=by
  intro b;constructor
  ·
   rintro(hb|⟨id,L,J,U⟩)
   · exact .inl (.inl hb)
   ·
    by_cases hid:id∈σ
    · obtain⟨j,I,rfl⟩:=aw id hid;exact .inr ⟨j,L,by rw[af j I];exact J,U⟩
    · exact .inl (.inr ⟨id,L,hid,J,U⟩)
  ·
   rintro((hb|⟨id,L,_,J,U⟩)|⟨j,L,J,U⟩)
   · exact .inl hb
   · exact .inr ⟨id,L,J,U⟩
   ·
    by_cases I:j<σ.length
    · rw[af j I]at J;exact .inr ⟨_,L,J,U⟩
    · simp only[ρc,A7 I]at J;cases J
 have bq:Stay w (Owned ρ c.X) w (Owned ρc X'):=Stay.same (fun b _ hb=>(bb b).2 hb);have bu:Moves (· <σ.length) (fun i=>ρ (sub σ nid i)) ρc:=Moves.of_eq (fun i hi=>by rw[af i hi,ab i hi]);have cd:RepS w ρc X' lob:=by
  refine⟨fun j o ho=>?_,fun j I=>?_,fun j j' L L' b J U h3 h4=>?_,fun j L b J U h3=>?_⟩
  · have I:=(an.none j o ho).1;have:=h.s.objs _ _ (ca j o ho);rw[←ab j I]at this;exact RepO.sub bq bu (an.none j o ho).2 (by rw[af j I,ab j I]) this
  ·
   by_cases bm:j<σ.length
   · obtain⟨o,ho⟩:=an.all j bm;rw[ho]at I;cases I
   · exact A7 bm
  ·
   by_cases I:j<σ.length
   ·
    by_cases az:j'<σ.length
    · rw[af j I]at J;rw[af j' az]at U;have:=h.s.apart _ _ L L' b J U h3 h4;have e1:=eP ay I;have e2:=eP ay az;rw[this]at e1;rw[e1]at e2;cases e2;rfl
    · simp only[ρc,A7 az]at U;cases U
   · simp only[ρc,A7 I]at J;cases J
  ·
   by_cases I:j<σ.length
   ·
    rw[af j I]at J;rcases h3 with h3|⟨id,L',hid,h4,h5⟩
    · exact h.s.xb _ L b J U h3
    · have:=h.s.apart _ _ L L' b J h4 U h5;exact hid (this▸bn j I)
   · simp only[ρc,A7 I]at J;cases J
 have ba:RepHV w ρc (Owned ρc X') bg ys:=by
  rw[bd]at hx;exact RepHV.stay bq bu an.args (nP.1 hx)
 have cb: ∀b,X' b→b<w.heap.size:=by
  rintro b (hb|⟨id,L,_,J,U⟩)
  · exact I0 (h.xlt b hb) h.base.size
  · exact Owned.lt h.s J U
 refine(hF w ρc X' ys cd ba cb).mono ?_;rintro e w' ⟨r,ad,ρ',x,rfl,hR,hg⟩;refine⟨x,r.ren (sub σ nid),bY ob σ nid ad,?_⟩
 let ρn:Env:=fun id=>match σ.findIdx? (· ==id)with|some j=>ρ' j|none=>if nid≤id∧id<nid+4 then ρ' (σ.length+(id-nid))else ρ id
 have bp: ∀i,i<4→nid+i∉σ:=fun i hi bz=>by
  obtain⟨j,I,e⟩:=aw _ bz;exact ar i hi (e▸bj j I)
 have aa: ∀id,id∉σ→σ.findIdx? (· ==id)=none:=fun id hid=>by
  rw[U6];intro y hy;simp only[J2,AD];intro e;exact hid (e▸hy)
 have ag: ∀j,j<σ.length→ρn (σ.getD j 0)=ρ' j:=fun j I=>by simp only[ρn,eP ay I]
 have aj: ∀i,i<4→ρn (nid+i)=ρ' (σ.length+i):=fun i hi=>by
  simp only[ρn,aa _ (bp i hi)];rw[B1 ⟨by omega,by omega⟩];congr 1;omega
 have ae: ∀id,id∉σ→ ¬(nid≤id∧id<nid+4)→ρn id=ρ id:=fun id J U=>by simp only[ρn,aa id J,A7 U]
 have aq: ∀j,j<σ.length→bY ob σ nid ad (σ.getD j 0)=(ad j).map (HO.ren (sub σ nid)):=fun j I=>by simp only[bY,eP ay I]
 have ao: ∀i,i<4→bY ob σ nid ad (nid+i)=(ad (σ.length+i)).map (HO.ren (sub σ nid)):=fun i hi=>by
  simp only[bY,aa _ (bp i hi)];rw[B1 ⟨by omega,by omega⟩];congr 2;omega
 have au: ∀id,id∉σ→ ¬(nid≤id∧id<nid+4)→bY ob σ nid ad id=ob id:=fun id J U=>by simp only[bY,aa id J,A7 U]
 have split: ∀id,(∃j,j<σ.length∧σ.getD j 0=id)∨(∃i,i<4∧id=nid+i)∨(id∉σ∧ ¬(nid≤id∧id<nid+4)):=fun id=>by
  by_cases J:id∈σ
  · exact .inl (aw id J)
  ·
   by_cases U:nid≤id∧id<nid+4
   · exact .inr (.inl ⟨id-nid,by omega,by omega⟩)
   · exact .inr (.inr ⟨J,U⟩)
 have ai: ∀j,ρn (sub σ nid j)=ρ' j∨ ¬j<σ.length+4:=fun j=>by
  by_cases I:j<σ.length
  · exact .inl (by rw[ab j I];exact ag j I)
  ·
   by_cases bk:j<σ.length+4
   · refine .inl ?_;have:sub σ nid j=nid+(j-σ.length):=A7 I;rw[this,aj _ (by omega)];congr 1;omega
   · exact .inr bk
 have bc: ∀b,Own ρn b↔(Own ρ' b∨ ∃id L,id∉σ∧ρ id=some L∧L.has b):=by
  intro b;constructor
  ·
   rintro⟨id,L,J,U⟩;rcases split id with⟨j,I,rfl⟩|⟨i,hi,rfl⟩|⟨h3,h4⟩
   · rw[ag j I]at J;exact .inl ⟨j,L,J,U⟩
   · rw[aj i hi]at J;exact .inl ⟨_,L,J,U⟩
   · rw[ae id h3 h4]at J;exact .inr ⟨id,L,h3,J,U⟩
  ·
   rintro(⟨j,L,J,U⟩|⟨id,L,h3,J,U⟩)
   ·
    have bk:j<σ.length+4:=by
     cases ho:ad j with
     |none=>rw[hg.s.none j ho]at J;cases J
     |some o=>exact(hg.mo j o ho).1
    rcases ai j with e|e
    · exact⟨_,L,by rw[e];exact J,U⟩
    · exact absurd bk e
   ·
    by_cases h4:nid≤id∧id<nid+4
    · exfalso;have:=(h.nid_none (ar (id-nid) (by omega))).2;rw[show nid+(id-nid)=id from by omega]at this;rw[this]at J;cases J
    · exact⟨id,L,by rw[ae id h3 h4];exact J,U⟩
 have ax: ∀b,Owned ρn c.X b→Owned ρ' X' b:=by
  rintro b (hb|hb)
  · exact .inl (.inl hb)
  ·
   rcases(bc b).1 hb with hb|hb
   · exact .inr hb
   · exact .inl (.inr hb)
 have bl:Stay w' (Owned ρ' X') w' (Owned ρn c.X):=Stay.same (fun b _ hb=>ax b hb);have ak: ∀b,Own ρc b→Own ρ b:=by
  rintro b ⟨j,L,J,U⟩;by_cases I:j<σ.length
  · rw[af j I]at J;exact⟨_,L,J,U⟩
  · simp only[ρc,A7 I]at J;cases J
 have bx:Stay2 w (Own ρ) w' (Own ρn):=by
  refine⟨fun b hb hO=>hg.stay.block b hb (fun J=>hO (ak b J)),fun b hb=>?_,hg.stay.size,hg.stay.os,hg.stay.tape,hg.stay.output⟩;rcases(bc b).1 hb with hb|⟨id,L,_,J,U⟩
  · exact(hg.stay.own b hb).imp (ak b) id
  · exact .inl ⟨id,L,J,U⟩
 have bo:Moves M ρ ρn:=by
  intro id L' hm hL;rcases split id with⟨j,I,rfl⟩|⟨i,hi,rfl⟩|⟨h3,h4⟩
  · rw[ag j I]at hL;obtain⟨L,J,U⟩:=hg.moves j L' I hL;rw[af j I]at J;exact⟨L,J,U⟩
  · exact absurd hm (ar i hi)
  · rw[ae id h3 h4]at hL;exact⟨L',hL,.inl rfl⟩
 have bh:Moves (· <σ.length+4) ρ' (fun i=>ρn (sub σ nid i)):=Moves.of_eq (fun i hi=>(ai i).resolve_right (fun e=>e hi));have bf: ∀i,i<σ.length+4→M' (sub σ nid i):=fun i hi=>by
  by_cases I:i<σ.length
  · rw[ab i I];exact hM _ (bj i I)
  · have:sub σ nid i=nid+(i-σ.length):=A7 I;rw[this];exact bt _ (by omega)
 have cf:(r.ren (sub σ nid)).men M':=men_ren.2 (HV.men_mono bf hg.mr);refine⟨ρn,rfl,hK r ad hR hg.mr,h.step hM bx bo ⟨fun id o ho=>?_,fun id hid=>?_,?_,?_⟩ (.inr ⟨?_,?_⟩) cf (fun id o ho=>?_) hd⟩
 ·
  rcases split id with⟨j,I,rfl⟩|⟨i,hi,rfl⟩|⟨h3,h4⟩
  ·
   rw[aq j I,C9]at ho;obtain⟨o',ah,rfl⟩:=ho;have:=RepO.unsub bl bh (hg.mo j o' ah).2 ((ai j).resolve_right (fun e=>e (by omega))) (hg.s.objs j o' ah)
   rwa [ab j I]at this
  ·
   rw[ao i hi,C9]at ho;obtain⟨o',ah,rfl⟩:=ho;have:=RepO.unsub bl bh (hg.mo _ o' ah).2 ((ai _).resolve_right (fun e=>e (by omega))) (hg.s.objs _ o' ah);have e:sub σ nid (σ.length+i)=nid+i:=by
    have: ¬σ.length+i<σ.length:=by omega
    rw[Hl.sub,A7 this];omega
   rwa [e]at this
  ·
   rw[au id h3 h4]at ho;refine RepO.stay (bx.stay c.X) bo (h.mo id o ho).2 (ae id h3 h4) (fun L b J U=>?_) (h.s.objs id o ho);refine hg.stay.block b (Owned.lt h.s J U) ?_;rintro⟨j,L',h5,h6⟩;by_cases I:j<σ.length
   · rw[af j I]at h5;have:=h.s.apart _ _ L L' b J h5 U h6;exact h3 (this▸bn j I)
   · simp only[ρc,A7 I]at h5;cases h5
 ·
  rcases split id with⟨j,I,rfl⟩|⟨i,hi,rfl⟩|⟨h3,h4⟩
  · rw[aq j I,V8]at hid;rw[ag j I];exact hg.s.none j hid
  · rw[ao i hi,V8]at hid;rw[aj i hi];exact hg.s.none _ hid
  · rw[au id h3 h4]at hid;rw[ae id h3 h4];exact h.s.none id hid
 ·
  have other: ∀j L b id L2,ρ' j=some L→L.has b→id∉σ→ρ id=some L2→L2.has b→False:=fun j L b id L2 J U h3 h4 h5=>
   hg.s.xb j L b J U (.inr ⟨id,L2,h3,h4,h5⟩)
  have norm: ∀id L,ρn id=some L→(∃j,j<σ.length+4∧id=sub σ nid j∧ρ' j=some L)∨(id∉σ∧ρ id=some L):=fun id L hL=>by
   rcases split id with⟨j,I,rfl⟩|⟨i,hi,rfl⟩|⟨h3,h4⟩
   · rw[ag j I]at hL;exact .inl ⟨j,by omega,(ab j I).symm,hL⟩
   ·
    rw[aj i hi]at hL;refine .inl ⟨σ.length+i,by omega,?_,hL⟩;have: ¬σ.length+i<σ.length:=by omega
    rw[Hl.sub,A7 this];omega
   · rw[ae id h3 h4]at hL;exact .inr ⟨h3,hL⟩
  intro id id' L L' b J U h3 h4;rcases norm id L J with⟨j,I,rfl,e1⟩|⟨ch,e1⟩<;>rcases norm id' L' U with⟨j',az,rfl,e2⟩|⟨cg,e2⟩
  · rw[hg.s.apart j j' L L' b e1 e2 h3 h4]
  · exact(other j L b id' L' e1 h3 cg e2 h4).elim
  · exact(other j' L' b id L e2 h4 ch e1 h3).elim
  · exact h.s.apart id id' L L' b e1 e2 h3 h4
 ·
  intro id L b J U hX;rcases split id with⟨j,I,rfl⟩|⟨i,hi,rfl⟩|⟨h3,h4⟩
  · rw[ag j I]at J;exact hg.s.xb j L b J U (.inl hX)
  · rw[aj i hi]at J;exact hg.s.xb _ L b J U (.inl hX)
  · rw[ae id h3 h4]at J;exact h.s.xb id L b J U hX
 · exact lS.2 (RepH.stay bl bh hg.mr hg.v.1)
 · rw[HV.ren_isAgg];exact hg.v.2
 ·
  rcases split id with⟨j,I,rfl⟩|⟨i,hi,rfl⟩|⟨h3,h4⟩
  · rw[aq j I,C9]at ho;obtain⟨o',ah,rfl⟩:=ho;exact⟨hM _ (bj j I),HO.men_ren.2 (HO.men_mono bf (hg.mo j o' ah).2)⟩
  · rw[ao i hi,C9]at ho;obtain⟨o',ah,rfl⟩:=ho;exact⟨bt i hi,HO.men_ren.2 (HO.men_mono bf (hg.mo _ o' ah).2)⟩
  · rw[au id h3 h4]at ho;exact⟨hM _ (h.mo id o ho).1,HO.men_mono hM (h.mo id o ho).2⟩
end
end Go.Hl
