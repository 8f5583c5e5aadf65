/- HL, part L: contracts of functions, and calls. By an AI agent. -/
import Derived.Test.YtlgckianjabghaaGreatDoorHlAs
set_option linter.unusedSimpArgs false
set_option linter.unusedVariables false
set_option linter.defProp false
namespace Go.Hl
open Go
def hun (op:UnOp)(x:HV)(K:HV→Prop):Prop:=
 match op,x with
 | .not,.c (.bool b)=>K (.c (.bool (!b)))
 | .neg,.c (.int k n)=>K (.c (.int k (k.wrap (0-n))))
 | .xor,.c (.int k n)=>K (.c (.int k (k.wrap (BitVec.ofInt k.bits (if k.signed then-1 else k.max)^^^BitVec.ofInt k.bits n).toNat)))
 | .plus,x=>False∧K x
 |_,_=>False
def hconv (P:Program)(src dst:TypeId)(x:HV)(K:HV→Prop):Prop:=
 hlift (aT P src) fun ts=>hlift (aT P dst) fun td=>match ts.d,td.d,x with
  |_,.int k,.c (.int _ n)=>K (.c (.int k (k.wrap n)))
  |_,.string,.c (.str s)=>K (.c (.str s))
  | .slice e,.string,.c (.slc l)=>hlift (aT P e) fun te=>te.d= .int .u8∧hlift (iX l) fun bs=>K (.c (.str bs))
  |_,_,_=>False
def hindex (P:Program)(t:TypeId)(x i:HV)(K:HV→Prop):Prop:=
 hlift (aT P t) fun ti=>match ti.d,x,i with
  | .string,.c (.str s),.c (.int _ i)=>(0≤i∧i<(s.length:Int))∧K (.c (.int .u8 (s.getD i.toNat 0).toNat))
  | .array m e,x,.c (.int _ i)=>hlift (aT P e) fun te=>(x.isAgg=true∧x.sto=true∧0≤i∧i<(m:Int))∧hlift (HV.getAt (i.toNat*te.size) te.size te.d.isAgg x) K
  |_,_,_=>False
def hext (x:HV)(i:Nat)(K:HV→Prop):Prop:=
 match x with
 | .tup l=>hlift l[i]? K
 |_=>False
def hclo (f:FuncId)(caps:List HV)(K:HV→Prop):Prop:=
 match caps with
 |[]=>K (.c (.fn f))
 |caps=>(∀v∈caps,v≠ .junk)∧K (.clo f caps)
def hmax (mx:Bool)(x y:HV)(K:HV→Prop):Prop:=
 match x,y with
 | .c (.int k a),.c (.int k' b)=>k=k'∧K (.c (.int k (if mx then(if b>a then b else a)else(if b<a then b else a))))
 |_,_=>False
def live (x:HV)(ob:Ob):Prop:=
 match x with
 | .c (.rp _)=>True
 | .c (.fn _)=>True
 | .clo _ _=>True
 | .ptr id _=>HO.isBox (ob id)=true
 | .eptr id n _ _ _=>HO.isRow n (ob id)
 |_=>False
def TyD.plain :TyD→Bool
 | .bool| .int _| .string| .array _ _| .struct _=>true
 |_=>false
def hmkIface (P:Program)(t:TypeId)(x:HV)(K:HV→Prop):Prop:=
 hlift (aT P t) fun ti=>match x with
  | .c v=>ti.d.plain=true∧K (.c (.ifc t v))
  |_=>False
def hassert (P:Program)(t:TypeId)(x:HV)(K:HV→Prop):Prop:=
 hlift (aT P t) fun ti=>match x with
  | .c (.ifc t' v)=>ti.d.plain=true∧K (if t'=t then .tup [.c v,.c (.bool true)]else .tup [.c ti.z,.c (.bool false)])
  |_=>False
def hmakeSlice (P:Program)(t:TypeId)(len cap:HV)(nid:Nat)(ob:Ob)(K:HV→Ob→Prop):Prop:=
 hlift (aT P t) fun ti=>match ti.d,len,cap with
  | .slice e,.c (.int _ l),.c (.int _ c)=>hlift (aT P e) fun te=>if l=0 then(l=0∧0≤c∧c*te.bytes≤140737488355328∧c≤140737488355328)∧K (.own nid 0) (upd ob nid (some (.row e te.size [])))
   else(0≤l∧l=c∧te.size=1∧c*te.bytes≤140737488355328∧c≤140737488355328)∧K (.own nid l.toNat) (upd ob nid (some (.row e te.size (List.replicate l.toNat te.z))))
  |_,_,_=>False
def hop (P:Program)(nid:Nat)(o:Op)(e:Operand→HV)(ob:Ob)(K:HV→Ob→Prop):Prop:=
 match o with
 | .move x| .assign x=>e x≠ .junk∧K (e x) ob
 | .pick c a b=>hpick (e c) (e a) (e b) fun v=>v≠ .junk∧K v ob
 | .alloc t=>hlift (aT P t) fun ti=>K (.ptr nid 0) (upd ob nid (some (.box t (.c ti.z))))
 | .box t x=>e x≠ .junk∧K (.ptr nid 0) (upd ob nid (some (.box t (e x))))
 | .build t parts=>hlift (aT P t) fun ti=>iK ti parts.toList e fun v=>K v ob
 | .buildSlice t len parts=>hlift (aT P t) fun ti=>match ti.d with
  | .slice el=>hlift (aT P el) fun te=>hlift (hclosed e parts.toList 0 te.size) fun l=>(len=l.length∧len*te.size≤2^24)∧K (.own nid len) (upd ob nid (some (.row el te.size l)))
  |_=>False
 | .load t x=>hlift (aT P t) fun ti=>hload ti (e x) ob fun v=>K v ob
 | .store t x y=>hlift (aT P t) fun ti=>hstore ti (e x) (e y) ob K
 | .nilCheck x=>live (e x) ob∧K (e x) ob
 | .binOp op t x y _=>kI P op t (e x) (e y) fun v=>K (.c v) ob
 | .unOp op _ x=>hun op (e x) fun v=>K v ob
 | .convert s d x=>hconv P s d (e x) fun v=>K v ob
 | .makeFunc (.func f) first caps=>first= #[]∧hclo f (caps.toList.map e) fun v=>K v ob
 | .slice t x lo hi none=>hslice2 P t (e x) (lo.map e) (hi.map e) ob fun v=>K v ob
 | .slice t x lo (some hi) (some mx)=>hslice3 P t (e x) (lo.map e) (e hi) (e mx) fun v=>K v ob
 | .makeMap t none=>hmakeMap P t nid ob K
 | .lookup t m k false=>hlookup P t (e m) (e k) ob fun v=>K v ob
 | .mapUpdate t m k v=>hmapUpdate P t (e m) (e k) (e v) ob K
 | .fieldAddr t x f=>hfieldAddr P t (e x) f ob fun v=>K v ob
 | .field t x f=>((e x).isAgg=true∧(e x).sto=true)∧hfield P t f fun off tf=>hlift (HV.getAt off tf.size tf.d.isAgg (e x)) fun v=>K v ob
 | .indexAddr t x i=>hindexAddr P t (e x) (e i) ob fun v=>K v ob
 | .index t x i=>hindex P t (e x) (e i) fun v=>K v ob
 | .extract x i=>hext (e x) i fun v=>v≠ .junk∧K v ob
 | .call c=>match c.callee,c.args.toList,c.argTypes.toList with
  | .builtin .len,[x],[t]=>hlift (aT P t) fun ti=>match ti.d with
   | .string=>hlift (match e x with| .c (.str s)=>some s.length|_=>none) fun n=>K (.c (.int .i64 n)) ob
   | .slice _=>hlift (hread (e x) ob) fun l=>K (.c (.int .i64 l.length)) ob
   | .array n _=>K (.c (.int .i64 n)) ob
   |_=>False
  | .builtin .append,[s,x],[t,t']=>if t'=t then happend2 P t (e s) (e x) nid ob K else happends P t t' (e s) (e x) ob K
  | .builtin .max,[x,y],[_,_]=>hmax true (e x) (e y) fun v=>K v ob
  | .builtin .min,[x,y],[_,_]=>hmax false (e x) (e y) fun v=>K v ob
  | .builtin .clear,[x],[t]=>hclear P t (e x) ob K
  | .builtin .copy,[x,y],[t,_]=>hcopy P t (e x) (e y) ob K
  |_,_,_=>False
 | .makeInterface t x=>hmkIface P t (e x) fun v=>K v ob
 | .typeAssert x _ t true=>hassert P t (e x) fun v=>K v ob
 | .makeSlice t len cap=>hmakeSlice P t (e len) (e cap) nid ob K
 |_=>False
section
variable {P:Program}{c:Ctx}{M M':Nat→Prop}{fr:Fr}{ob:Ob}{a:Act}{w:World}{ρ:Env}
theorem RepA'.weaken (h:RepA' c M fr ob a w ρ)(hM: ∀i,M i→M' i):RepA' c M' fr ob a w ρ:=
 ⟨h.s,h.f,fun t=>HV.men_mono hM (h.mf t),fun id o ho=>⟨hM _ (h.mo id o ho).1,by
  have h2:=(h.mo id o ho).2;cases o with
  |box t v=>exact HV.men_mono hM h2
  |row _ _ _=>trivial
  |mp _ _ _=>trivial
  |dead=>trivial
  |tab _=>trivial
  |hrow _ _ _=>exact HV.menL_mono hM h2
  |raw _ _=>trivial
  |it _ _ _ _=>exact hM _ h2⟩,fun id hid=>hM _ (h.m0 id hid),h.base,h.moves,h.defers,h.size,h.xlt⟩
def Gives (P:Program)(o:Oper)(a:Act)(w:World)(R:Value→World→Prop):Prop:=
 ∃y w',R y w'∧((execOp a.eval o).run P w= .ok (.value y) w'∨((execOp a.eval o).run P w= .ok .skip w'∧y=undef))
theorem Gives.val {o:Oper}{R:Value→World→Prop}{y:Value}{w':World}(h:(execOp a.eval o).run P w= .ok (.value y) w')(hr:R y w'):Gives P o a w R:=⟨y,w',hr,.inl h⟩
theorem aQ3 (h:RepA' c M fr ob a w ρ): ∀(l:List Operand),(∀v∈l.map (ev fr),v≠ .junk)→RepHV w ρ (Owned ρ c.X) (l.map (ev fr)) (l.map a.eval)
 |[],_=>by simp[RepHV]
 |x::xs,hj=>by
  simp only[D0,bY];exact⟨_,_,rfl,h.ev x (hj _ (by simp)),aQ3 h xs (fun v hv=>hj v (by grind))⟩
theorem bG3 (h:RepA' c M fr ob a w ρ): ∀(l:List Operand),HV.menL M (l.map (ev fr))
 |[]=>by simp[HV.menL]
 |x::xs=>by simp only[D0,HV.menL];exact⟨h.evm x,bG3 h xs⟩
theorem gG {op:BinOp}{t:TypeId}{x y:Operand}{u v:Value}(h1:u≠ .nilIface)(h2:Value.isAgg' u=true→P.eqGuardType P.depth t=false):(eqGuard op t x y u v).run P w= .ok () w:=by
 have key:op= .eql∨op= .neq→(eqGuard op t x y u v).run P w= .ok () w:=by
  rintro(rfl|rfl)<;>unfold eqGuard<;>cases u<;>first|exact absurd rfl h1|(cases v<;>first|rfl|simp[h2 rfl])
 cases op<;>first|exact key (.inl rfl)|exact key (.inr rfl)|rfl
theorem bU9 {x:Value}{cs:List Value}(h:Value.isAgg' x=true)(e:x.cells.toList=cs):x= .agg cs.toArray:=by
 cases x<;>simp[Value.isAgg']at h;simp only[Value.cells]at e;rw[←e]
theorem aC8 {w:World}{ρ:Env}{O:Nat→Prop}{v:HV}: ∀{l:List HV} {xs:List Value} {i:Nat},RepHV w ρ O l xs→l[i]? =some v→ ∃x,xs[i]? =some x∧RepV w ρ O v x
 |[],xs,i,_,hi=>by grind
 |u::us,xs,0,h,hi=>by
  rw[bY]at h;grind
 |u::us,xs,i+1,h,hi=>by
  rw[bY]at h;obtain⟨y,ys,rfl,h1,h2⟩:=h;simp only[N2]at hi⊢;exact aC8 h2 hi
theorem aQ4 {M:Nat→Prop}{v:HV}: ∀{l:List HV} {i:Nat},HV.menL M l→l[i]? =some v→v.men M
 |[],i,_,hi=>by grind
 |u::us,0,h,hi=>by grind[List.getElem?_cons_zero,Option.some.injEq,HV.menL]
 |u::us,i+1,h,hi=>by simp only[N2]at hi;simp only[HV.menL]at h;exact aQ4 h.2 hi
theorem vO {t:TypeId}{ti:TyI}{i:TypeInfo}{d:TypeDesc}{zv:Value}(hty:TyOk P t ti i d zv)(hp:ti.d.plain=true): ∀ms,d≠ .interface ms:=by
 intro ms e;have:=hty.d_;rw[e]at this;rw[←this]at hp;cases hp
theorem aA7 (h:RepA' c M fr ob a w ρ){t:TypeId}{x:Operand}{K:HV→Prop}(hl:hmkIface P t (ev fr x) K):
  ∃u y,K u∧(Instr.makeInterface t (a.eval x)).run P w= .ok y w∧RepV w ρ (Owned ρ c.X) u y∧u.men M:=by
 unfold hmkIface at hl;rw[aD]at hl;obtain⟨ti,ht,hl⟩:=hl;split at hl
 ·
  rename_i v hx;obtain⟨hp,hK⟩:=hl;obtain⟨i,d,zv,hty⟩:=bM ht;have hr:=h.ev x (by rw[hx];simp);rw[hx]at hr;obtain⟨r1,r2⟩:=hr;simp only[RepH]at r1;refine⟨_,.iface t (a.eval x),hK,?_,dD ?_ rfl rfl,by simp[HV.men]⟩
  · have hni:=vO hty hp;have hu:=D3 (w:=w) hty.under;unfold Instr.makeInterface;clear hty;cases d<;>first|exact absurd rfl (hni _)|simp[hu]
  · simp only[RepC];have e:eP v.isAgg (a.eval x).cells.toList=a.eval x:=lN _ _ r2.symm;exact⟨_,r1,by rw[e]⟩
 · exact hl.elim
theorem aJ6 (h:RepA' c M fr ob a w ρ){s t:TypeId}{x:Operand}{K:HV→Prop}(hl:hassert P t (ev fr x) K):
  ∃u y,K u∧(Instr.typeAssert (a.eval x) s t true).run P w= .ok y w∧RepV w ρ (Owned ρ c.X) u y∧u.men M:=by
 unfold hassert at hl;rw[aD]at hl;obtain⟨ti,ht,hl⟩:=hl;split at hl
 ·
  rename_i t' v hx;obtain⟨hp,hK⟩:=hl;obtain⟨i,d,zv,hty⟩:=bM ht;have hni:=vO hty hp;have hr:=h.ev x (by rw[hx];simp);rw[hx]at hr;have hs:=hr.single rfl;simp only[RepC,G4,L8]at hs;obtain⟨xs,r1,he⟩:=hs;have hz:(zeroValue t).run P w= .ok zv w:=by simp[zeroValue,typeInfo,hty.info,hty.zero]
  have run:(Instr.typeAssert (a.eval x) s t true).run P w=(if t'=t then Result.ok (.tuple #[eP v.isAgg xs,.bool true]) w else .ok (.tuple #[zv,.bool false]) w):=by
   have hu:=D3 (w:=w) hty.under;unfold Instr.typeAssert;rw[he];clear hty;cases d<;>first|exact absurd rfl (hni _)|(by_cases e:t'=t<;>simp[hu,e,hz])
  by_cases e:t'=t
  · rw[B6 e]at hK run;refine⟨_,_,hK,run,dR ?_ rfl rfl,by simp[HV.men,HV.menL]⟩;simp only[RepH];refine⟨[eP v.isAgg xs,.bool true],rfl,?_⟩;rw[bY];refine⟨_,_,rfl,gE (by simpa only[RepH]using r1) rfl rfl,?_⟩;rw[bY];exact⟨_,_,rfl,iT _ _ _ _,by simp[RepHV]⟩
  · rw[A7 e]at hK run;refine⟨_,_,hK,run,dR ?_ rfl rfl,by simp[HV.men,HV.menL]⟩;simp only[RepH];refine⟨[zv,.bool false],rfl,?_⟩;rw[bY];refine⟨_,_,rfl,⟨by simp only[RepH];exact hty.rep w _,by rw[HV.isAgg,hty.agg]⟩,?_⟩;rw[bY];exact⟨_,_,rfl,iT _ _ _ _,by simp[RepHV]⟩
 · exact hl.elim
theorem wW (h:RepA' c M fr ob a w ρ){nid:Nat}(hn: ¬M nid)(hM: ∀i,M i→M' i)(hM':M' nid){t:TypeId}{len cap:Operand}{K:HV→Ob→Prop}
  (hl:hmakeSlice P t (ev fr len) (ev fr cap) nid ob K) (d:Option Nat) (hd: ∀k,d=some k→k<c.n):
  ∃v ob' y w' ρ',K v ob'∧(Instr.makeSlice t (a.eval len) (a.eval cap)).run P w= .ok y w'∧RepA' c M' (updo fr d v) ob' (a.put d y) w' ρ':=by
 unfold hmakeSlice at hl;rw[aD]at hl;obtain⟨ti,ht,hl⟩:=hl;obtain⟨i0,d0,zv0,hty⟩:=bM ht;split at hl
 ·
  rename_i e k1 l k2 m hde hlen hcap;rw[aD]at hl;obtain⟨te,hte,hl⟩:=hl;obtain⟨ie,de,zve,htye⟩:=bM hte;have hdd:=hty.d_;by_cases hl0:l=0
  rotate_left
  ·
   rw[A7 hl0]at hl;obtain⟨⟨h0,rfl,hs1,h1,h2⟩,hK⟩:=hl;obtain⟨n,rfl⟩: ∃n:Nat,l=n:=⟨l.toNat,by omega⟩;rw[hde]at hdd;have hu:P.underlying t=some (.slice e):=by
    rw[hty.under];congr 1;cases d0<;>simp[tyd]at hdd;rw[hdd]
   have hzs:=htye.zsize;rw[hs1]at hzs;obtain⟨x,hx⟩:=Array.size_eq_one_iff.1 hzs;have hrun:=run_make (P:=P) w t e ie zve hu htye.info htye.zero k1 k2 (n:Int) (n:Int) h0 (S1 _) (by rw[htye.bytes,Int.mul_comm];omega) (by omega);simp only[A5]at hrun hK;rw[htye.size,hs1,U1,hx]at hrun;refine⟨_,_,_,_,_,hK,by rw[eI h hlen,eI h hcap];exact hrun,h.newObj (w1:=w) (L:= .hdr (.slice (some ⟨w.heap.size,0,none⟩) n n)) hn hM hM' rfl rfl rfl rfl (fun b hb=>by simpa[Loc.has,Value.ownBlock]using hb.symm) (fun hst=>?_) trivial (.inr ?_) (by simpa[HV.men]using hM') hd⟩
   ·
    have hrl: ∀(w:World) (O:Nat→Prop) (n:Nat),RepL w O (List.replicate n te.z) (List.replicate n x):=by
     intro w O n;induction n with
     |zero=>simp[RepL]
     |succ n ih=>
      simp only[AS,RepL];exact⟨[x],_,rfl,by have:=htye.rep w O;rw[hx]at this;exact this,ih⟩
    have hzc:te.z.cells=1:=by rw[←bS (htye.rep w (fun _=>False)),hx];rfl
    refine⟨_,List.replicate n x,aU _ _ _,hrl _ _ n,fun v hv=>by rw[(BB.1 hv).2,hzc,hs1],by simp[hs1],.inr ⟨w.heap.size,n,madeCells #[x] n,by rw[V0],F9 _,O5 w _,by rw[V0];exact F2 _,by unfold maxLen;omega,by rw[size_madeCells,hs1,U1],?_⟩⟩;rw[toList_madeCells_one,hs1,V0,U1,E6 (by simp)]
   · refine dR ?_ rfl rfl;simp only[RepH];refine⟨_,rfl,by simp[Value.oneCell'],fun hd' hρ=>?_⟩;rw[aU]at hρ;cases hρ;exact⟨F2 _,fun _=>rfl⟩
  rw[B6 hl0]at hl;obtain⟨⟨rfl,h0,h1,h2⟩,hK⟩:=hl;obtain⟨n,rfl⟩: ∃n:Nat,m=n:=⟨m.toNat,by omega⟩;rw[hde]at hdd;have hu:P.underlying t=some (.slice e):=by
   rw[hty.under];congr 1;cases d0<;>simp[tyd]at hdd;rw[hdd]
  have hpos:=htye.pos;have hsz:(sizeOf e).run P w= .ok te.size w:=by rw[cD htye.info,htye.size]
  have hzero:(zeroValue e).run P w= .ok zve w:=by simp[zeroValue,typeInfo,htye.info,htye.zero]
  have hwr:IntKind.i64.wrap (n:Int)=n:=by simp[IntKind.wrap,IntKind.bits,IntKind.signed];omega
  have hb1: ¬(281474976710656<(ie.bytes:Int)*n):=by rw[htye.bytes,Int.mul_comm];omega
  have hb2: ¬(roomBytes<n*ie.bytes):=by
   rw[htye.bytes];have:((n*te.bytes:Nat):Int)≤140737488355328:=by push_cast;exact h1
   have:n*te.bytes≤140737488355328:=by omega
   unfold roomBytes;omega
  have hw0:IntKind.i64.wrap 0=0:=rfl;have hneg: ¬((n:Int)<0):=by omega
  obtain⟨cells,hrun,hcl⟩: ∃cells:Array Value,(Instr.makeSlice t (a.eval len) (a.eval cap)).run P w= .ok (.slice (some ⟨w.heap.size,0,none⟩) 0 n) (w.alloc (.cells cells e))∧cells.size=n*te.size:=by
   by_cases hz:n*te.size=0
   · refine⟨#[],?_,by simp[hz]⟩;rw[eI h hlen,eI h hcap];simp[Instr.makeSlice,D3 hu,asInt,asIntOf,typeInfo,htye.info,hwr,hw0,hneg,hb1,hb2,askRoom,hsz,hz,newRow];congr 2;exact Array.ext (by simp) (by simp)
   · refine⟨(Array.range (n*te.size)).map (zve.cells[· %zve.cells.size]!),?_,by simp⟩;rw[eI h hlen,eI h hcap];simp[Instr.makeSlice,D3 hu,asInt,asIntOf,typeInfo,htye.info,hwr,hw0,hneg,hb1,hb2,askRoom,hsz,hz,hzero,newRow]
  refine⟨_,_,_,_,_,hK,hrun,h.newObj (w1:=w) (L:= .hdr (.slice (some ⟨w.heap.size,0,none⟩) 0 n)) hn hM hM' rfl rfl rfl rfl (fun b hb=>by simpa[Loc.has,Value.ownBlock]using hb.symm) (fun hst=>?_) trivial (.inr ?_) (by simpa[HV.men]using hM') hd⟩
  · refine⟨_,[],aU _ _ _,by simp[RepL],by simp,by simp,.inr ⟨w.heap.size,n,cells,rfl,F9 _,O5 w _,F9 _,by unfold maxLen;omega,hcl,by simp⟩⟩
  · refine dR ?_ rfl rfl;simp only[RepH];refine⟨_,rfl,by simp[Value.oneCell'],fun hd' hρ=>?_⟩;rw[aU]at hρ;cases hρ;exact⟨F2 _,fun _=>rfl⟩
 grind
theorem aC9 (h:RepA' c M fr ob a w ρ){nid:Nat}(hn: ¬M nid)(hM: ∀i,M i→M' i)(hM':M' nid){o:Oper}{K:HV→Ob→Prop}(hl:hop P nid o.op (ev fr) ob K)(hd: ∀k,o.dst=some k→k<c.n):
  Gives P o a w fun y w'=> ∃v ob' ρ',K v ob'∧RepA' c M' (updo fr o.dst v) ob' (a.put o.dst y) w' ρ':=by
 have valq: ∀{v:HV} {y:Value},K v ob→(execOp a.eval o).run P w= .ok (.value y) w→RepV w ρ (Owned ρ c.X) v y→v.men M→
   Gives P o a w fun y w'=> ∃v ob' ρ',K v ob'∧RepA' c M' (updo fr o.dst v) ob' (a.put o.dst y) w' ρ':=fun hK hr hv hm=>
  .val hr ⟨_,_,_,hK,(h.value (.inr hv) hm hd).weaken hM⟩
 unfold hop at hl;split at hl
 · rename_i x ho;exact valq hl.2 (by simp[execOp,ho]) (h.ev x hl.1) (h.evm x)
 · rename_i x ho;exact valq hl.2 (by simp[execOp,ho]) (h.ev x hl.1) (h.evm x)
 ·
  rename_i cc x y ho;unfold hpick at hl;split at hl
  ·
   rename_i t hc;have hb:=pO h hc;cases t with
   |true=>exact valq hl.2 (by simp[execOp,ho,hb,asBool]) (h.ev x (by simpa using hl.1)) (by simpa using h.evm x)
   |false=>exact valq hl.2 (by simp[execOp,ho,hb,asBool]) (h.ev y (by simpa using hl.1)) (by simpa using h.evm y)
  · exact hl.elim
 · rename_i t ho;rw[aD]at hl;obtain⟨ti,ht,hK⟩:=hl;obtain⟨y,w',ρ',hr,hA⟩:=aP3 (P:=P) h hn hM hM' ht o.dst hd;exact .val (by simp[execOp,ho,hr]) ⟨_,_,_,hK,hA⟩
 · rename_i t x ho;obtain⟨y,w',ρ',hr,hA⟩:=bM4 (P:=P) h hn hM hM' (t:=t) hl.1 o.dst hd;exact .val (by simp[execOp,ho,hr]) ⟨_,_,_,hl.2,hA⟩
 · rename_i t parts ho;rw[aD]at hl;obtain⟨ti,ht,hl⟩:=hl;obtain⟨u,y,hK,hr,hv,hm⟩:=aP8 h ht hl;exact valq hK (by simp[execOp,ho,hr]) hv hm
 ·
  rename_i t len parts ho;rw[aD]at hl;obtain⟨ti,ht,hl⟩:=hl;split at hl
  · rename_i el hde;rw[aD]at hl;obtain⟨te,hte,hl⟩:=hl;rw[aD]at hl;obtain⟨l,hcl,⟨h1,h2⟩,hK⟩:=hl;obtain⟨y,w',ρ',hr,hA⟩:=uJ h hn hM hM' ht hde hte hcl h1 h2 o.dst hd;exact .val (by simp[execOp,ho,hr]) ⟨_,_,_,hK,hA⟩
  · exact hl.elim
 · rename_i t x ho;rw[aD]at hl;obtain⟨ti,ht,hl⟩:=hl;obtain⟨u,y,hK,hr,hv,hm⟩:=xN h ht hl;exact valq hK (by simp[execOp,ho,hr]) hv hm
 · rename_i t x y ho;rw[aD]at hl;obtain⟨ti,ht,hl⟩:=hl;obtain⟨ob',w',hK,hr,hA⟩:=aP2 h ht hl;exact⟨undef,w',⟨_,_,_,hK,(hA o.dst undef hd).weaken hM⟩,.inr ⟨by simp[execOp,ho,hr],rfl⟩⟩
 ·
  rename_i x ho;obtain⟨hlv,hK⟩:=hl;have hj:ev fr x≠ .junk:=by intro e;rw[e]at hlv;exact hlv
  refine valq hK ?_ (h.ev x hj) (h.evm x);unfold live at hlv;split at hlv
  · rename_i v hx;obtain⟨ad,xs,he,_⟩:=bF9 h hx;simp[execOp,ho,he]
  · rename_i f hx;have hr:=h.ev x hj;rw[hx]at hr;have:=hr.single rfl;simp only[RepC,G4,L8]at this;simp[execOp,ho,this]
  · rename_i f caps hx;have hr:=dQ (h.ev x hj) (by rw[hx];rfl);rw[hx]at hr;simp only[RepH,G4,L8]at hr;obtain⟨⟨xs,he,_⟩,_⟩:=hr;simp[execOp,ho,he]
  · rename_i id off hx;obtain⟨b,_,he⟩:=kW h hx hlv;simp[execOp,ho,he]
  · rename_i id n i sz off hx;obtain⟨g,cap,_,he⟩:=pP h hx hlv;simp[execOp,ho,he]
  · exact hlv.elim
 ·
  rename_i op t x y yt ho;unfold kI at hl;have run: ∀z,(eqGuard op t x y (a.eval x) (a.eval y)).run P w= .ok () w→(binOp op t (a.eval x) (a.eval y)).run P w= .ok z w→(execOp a.eval o).run P w= .ok (.value z) w:=fun z h1 h2=>by simp[execOp,ho,h1,h2]
  split at hl
  · rename_i k i1 k' i2 hx hy;obtain⟨u,hK,hs,hr⟩:=aA2 (P:=P) (t:=t) hl;have ex:=eI h hx;have ey:=eI h hy;exact valq hK (run _ (by rw[ex];exact gG (by simp) (by simp[Value.isAgg'])) (by rw[ex,ey];exact hr w)) (CV.val_rep hs) (by simp[HV.men])
  · rename_i s1 s2 hx hy;obtain⟨u,hK,hs,hr⟩:=aA3 (P:=P) (t:=t) hl;have ex:=nF h hx;have ey:=nF h hy;exact valq hK (run _ (by rw[ex];exact gG (by simp) (by simp[Value.isAgg'])) (by rw[ex,ey];exact hr w)) (CV.val_rep hs) (by simp[HV.men])
  ·
   rename_i b1 b2 hx hy;rw[aD]at hl;obtain⟨ti,ht,hd1,hl⟩:=hl;obtain⟨i,d,zv,hty⟩:=bM ht;have hu:P.underlying t=some .bool:=by
    have:=hty.d_;rw[hd1]at this;rw[hty.under];congr 1;cases d<;>simp[tyd]at this;rfl
   have ex:=pO h hx;have ey:=pO h hy;have hq:=run_equal_bool (P:=P) w t b1 b2 hu;split at hl
   · exact valq hl (run _ (by rw[ex];exact gG (by simp) (by simp[Value.isAgg'])) (by rw[ex,ey];simp[binOp,hq])) (iT _ _ _ _) (by simp[HV.men])
   · exact valq hl (run _ (by rw[ex];exact gG (by simp) (by simp[Value.isAgg'])) (by rw[ex,ey];simp[binOp,hq])) (iT _ _ _ _) (by simp[HV.men])
   · exact hl.elim
  ·
   rename_i l1 l2 hx hy;obtain⟨⟨h1,h2,h3⟩,hl⟩:=hl;simp only[aP9,A6,J8]at h1;have hrx:=h.ev x (by rw[hx];simp);have hry:=h.ev y (by rw[hy];simp);rw[hx]at hrx;rw[hy]at hry;obtain⟨rx1,rx2⟩:=hrx;obtain⟨ry1,ry2⟩:=hry;simp only[RepH]at rx1 ry1;have hq:=(aJ0 (P:=P) 9992 8 t h1.1 w _ _ _ _ _ _ h2 h3 rx1 ry1).1;have mx:eP (CV.agg l1).isAgg (a.eval x).cells.toList=a.eval x:=lN _ _ rx2.symm;have my:eP (CV.agg l2).isAgg (a.eval y).cells.toList=a.eval y:=lN _ _ ry2.symm;rw[mx,my]at hq;have hax: ∃cs,a.eval x= .agg cs:=by
    cases hv:a.eval x<;>rw[hv]at rx2<;>simp[HV.isAgg,CV.isAgg,Value.isAgg']at rx2;exact⟨_,rfl⟩
   obtain⟨cs,hcs⟩:=hax;have hay: ∃cs,a.eval y= .agg cs:=by
    cases hv:a.eval y<;>rw[hv]at ry2<;>simp[HV.isAgg,CV.isAgg,Value.isAgg']at ry2;exact⟨_,rfl⟩
   obtain⟨ds,hds⟩:=hay;have hq':(Op.equal t (.agg cs) (.agg ds)).run P w= .ok ((CV.agg l1).eqv (.agg l2)) w:=by rw[←hcs,←hds];exact hq
   have hg:=gG (P:=P) (w:=w) (op:=op) (t:=t) (x:=x) (y:=y) (u:=a.eval x) (v:=a.eval y) (by rw[hcs];simp) (fun _=>h1.2);split at hl
   · exact valq hl (run _ hg (by rw[hcs,hds];simp[binOp,hq'])) (iT _ _ _ _) (by simp[HV.men])
   · exact valq hl (run _ hg (by rw[hcs,hds];simp[binOp,hq'])) (iT _ _ _ _) (by simp[HV.men])
   · exact hl.elim
  · exact hl.elim
 ·
  rename_i op t x ho;unfold hun at hl;split at hl
  · rename_i b hx;have ex:=pO h hx;exact valq hl (by simp[execOp,ho,ex,Op.unary]) (iT _ _ _ _) (by simp[HV.men])
  · rename_i k n hx;have ex:=eI h hx;exact valq hl (by simp[execOp,ho,ex,Op.unary,Op.intArith]) (eV _ _ _ _ _) (by simp[HV.men])
  · rename_i k n hx;have ex:=eI h hx;exact valq hl (by simp[execOp,ho,ex,Op.unary,Op.intBits]) (eV _ _ _ _ _) (by simp[HV.men])
  · exact hl.1.elim
  · exact hl.elim
 ·
  rename_i sr ds x ho;unfold hconv at hl;rw[aD]at hl;obtain⟨ts,hts,hl⟩:=hl;rw[aD]at hl;obtain⟨td,htd,hl⟩:=hl;obtain⟨is,dd,zs,hs⟩:=bM hts;obtain⟨id',dd',zd,hdt⟩:=bM htd;split at hl
  ·
   rename_i k k' n hd1 hx;have ex:=eI h hx;have hu:P.underlying ds=some (.int k):=by
    have:=hdt.d_;rw[hd1]at this;rw[hdt.under];congr 1;cases dd'<;>simp[tyd]at this;rw[this]
   refine valq hl ?_ (eV _ _ _ _ _) (by simp[HV.men]);simp[execOp,ho,ex,convert,D3 hs.under,D3 hu,Conv.intToInt]
  ·
   rename_i s hd1 hx;have ex:=nF h hx;have hu:P.underlying ds=some .string:=by
    have:=hdt.d_;rw[hd1]at this;rw[hdt.under];congr 1;cases dd'<;>simp[tyd]at this;rfl
   refine valq hl ?_ (sG _ _ _ _) (by simp[HV.men]);simp[execOp,ho,ex,convert,D3 hs.under,D3 hu]
  ·
   rename_i e l hd1 hd2 hx;rw[aD]at hl;obtain⟨te,hte,h8,hl⟩:=hl;rw[aD]at hl;obtain⟨bs,hbs,hK⟩:=hl;obtain⟨ie,de,zve,htye⟩:=bM hte;have u1:P.underlying sr=some (.slice e):=by
    have:=hs.d_;rw[hd1]at this;rw[hs.under];congr 1;cases dd<;>simp[tyd]at this;rw[this]
   have u2:P.underlying ds=some .string:=by
    have:=hdt.d_;rw[hd2]at this;rw[hdt.under];congr 1;cases dd'<;>simp[tyd]at this;rfl
   have u3:P.underlying e=some (.int .u8):=by
    have:=htye.d_;rw[h8]at this;rw[htye.under];congr 1;cases de<;>simp[tyd]at this;rw[this]
   have hr:=aZ7 h u1 u3 u2 hx hbs;exact valq hK (by simp[execOp,ho,hr]) (sG _ _ _ _) (by simp[HV.men])
  · exact hl.elim
 ·
  rename_i f first caps ho
  obtain⟨rfl,hl⟩:=hl;unfold hclo at hl;split at hl
  ·
   rename_i hc;have hc0:caps= #[]:=by
    have:caps.toList=[]:=by simpa using hc
    exact Array.toList_eq_nil_iff.1 this
   subst hc0;exact valq (y:= .func (.func f) #[] #[]) hl (by simp[execOp,ho,Instr.makeFunc]) (dD (by simp[RepC]) rfl rfl) (by simp[HV.men])
  ·
   obtain⟨hj,hK⟩:=hl;have hr:=aQ3 h caps.toList hj;refine valq (y:= .func (.func f) #[] (caps.map a.eval)) hK (by simp[execOp,ho,Instr.makeFunc]) (dR ?_ rfl rfl) (by simp only[HV.men];exact bG3 h _);simp only[RepH];have e:caps.map a.eval=(caps.toList.map a.eval).toArray:=by rw[←Array.toList_map,I4]
   exact⟨caps.toList.map a.eval,by rw[e],hr⟩
 · rename_i t x lo hi ho;obtain⟨u,y,hK,hr,hv,hm⟩:=aJ4 h hl;exact valq hK (by simp[execOp,ho,hr]) hv hm
 · rename_i t x lo hi mx ho;obtain⟨u,y,hK,hr,hv,hm⟩:=aJ2 h hl;exact valq hK (by simp[execOp,ho,hr]) hv hm
 · rename_i t ho;obtain⟨v,ob',y,w',ρ',hK,hr,hA⟩:=aA4 h hn hM hM' hl o.dst hd;exact .val (by simp[execOp,ho,hr]) ⟨_,_,_,hK,hA⟩
 · rename_i t m k ho;obtain⟨u,y,hK,hr,hv,hm⟩:=aJ5 h hl;exact valq hK (by simp[execOp,ho,hr]) hv hm
 · rename_i t m k v ho;obtain⟨ob',w',hK,hr,hA⟩:=wV h hl;exact⟨undef,w',⟨_,_,_,hK,(hA o.dst undef hd).weaken hM⟩,.inr ⟨by simp[execOp,ho,hr],rfl⟩⟩
 · rename_i t x f ho;obtain⟨u,y,hK,hr,hv,hm⟩:=wT h hl;exact valq hK (by simp[execOp,ho,hr]) hv hm
 · rename_i t x f ho;obtain⟨⟨ha,hs⟩,hl⟩:=hl;obtain⟨fs,fd,tf,i,d,zv,hu,hf,hty,hK⟩:=uH hl;rw[aD]at hK;obtain⟨u,hg,hK⟩:=hK;have hr:=h.ev x (by intro e;rw[e]at hs;simp[HV.sto]at hs);obtain⟨c1,c2,c3,e0,e1,e2,e3,e4,e5,e6⟩:=HV.getAt_spec hg hs hr.1;have hax:a.eval x= .agg (c1++c2++c3).toArray:=bU9 (by rw[←hr.2,ha]) e0;have hp:=kP (w:=w) hty c1 c2 c3 e2;rw[e1]at hp;refine valq hK ?_ (gE e3 e4 e5) (e6 M (h.evm x));simp[execOp,ho,hax,Instr.field,D3 hu,hf,asAgg];simpa using congrArg (fun r=>Result.andThen r fun v w'=>Result.ok (Next.value v) w') hp
 · rename_i t x i ho;obtain⟨u,y,hK,hr,hv,hm⟩:=wU h hl;exact valq hK (by simp[execOp,ho,hr]) hv hm
 ·
  rename_i t x ix ho;unfold hindex at hl;rw[aD]at hl;obtain⟨ti,ht,hl⟩:=hl;obtain⟨i0,d0,zv0,hty⟩:=bM ht;have hdd:=hty.d_;split at hl
  ·
   rename_i s k i hd1 hx hi;obtain⟨⟨h0,h1⟩,hK⟩:=hl;rw[hd1]at hdd;have hu:P.underlying t=some .string:=by rw[hty.under];congr 1;cases d0<;>simp[tyd]at hdd;rfl
   have hlt:i.toNat<s.length:=by omega
   have hget:(⟨s.toArray⟩:ByteArray)[i.toNat]? =some (s.getD i.toNat 0):=by
    have hsz:(⟨s.toArray⟩:ByteArray).size=s.length:=by simp[ByteArray.size]
    rw[getElem?_pos _ _ (by rw[hsz];exact hlt)];simp[ByteArray.getElem_eq_getElem_data,hlt]
   refine valq hK ?_ (eV _ _ _ _ _) (by simp[HV.men]);simp[execOp,ho,nF h hx,eI h hi,Instr.index,asIntOf,D3 hu,h0,hget]
  ·
   rename_i m e k i hd1 hi;rw[hd1]at hdd;have hu:P.underlying t=some (.array m e):=by rw[hty.under];congr 1;cases d0<;>simp[tyd]at hdd;rw[hdd.1,hdd.2]
   rw[aD]at hl;obtain⟨te,hte,⟨ha,hs,h0,h1⟩,hl⟩:=hl;obtain⟨ie,de,zve,htye⟩:=bM hte;rw[aD]at hl;obtain⟨u,hg,hK⟩:=hl;have hr:=h.ev x (by intro e;rw[e]at hs;simp[HV.sto]at hs);obtain⟨c1,c2,c3,e0,e1,e2,e3,e4,e5,e6⟩:=HV.getAt_spec hg hs hr.1;have hax:a.eval x= .agg (c1++c2++c3).toArray:=bU9 (by rw[←hr.2,ha]) e0;have hp:=kP (w:=w) htye c1 c2 c3 e2;rw[e1]at hp;refine valq hK ?_ (gE e3 e4 e5) (e6 M (h.evm x));have hsz:(sizeOf e).run P w= .ok te.size w:=by rw[cD htye.info,htye.size]
   simp only[execOp,ho,hax,Instr.index,asIntOf,eI h hi,F8,I5,E4,D3 hu,h0,h1,J7,F7,hsz,hp]
  · exact hl.elim
 ·
  rename_i x i ho;unfold hext at hl;split at hl
  · rename_i l hx;rw[aD]at hl;obtain⟨v,hv,hj,hK⟩:=hl;have hr:=dQ (h.ev x (by rw[hx];simp)) (by rw[hx];rfl);have hm:=h.evm x;rw[hx]at hr hm;simp only[RepH,G4,L8,HV.men]at hr hm;obtain⟨⟨xs,he,hxs⟩,_⟩:=hr;obtain⟨y,hy,hyv⟩:=aC8 hxs hv;exact valq hK (by simp[execOp,ho,he,Instr.extract,hy]) hyv (aQ4 hm hv)
  · exact hl.elim
 ·
  rename_i cl ho;split at hl
  ·
   rename_i x t hcal hargs hat;have hargs':cl.args= #[x]:=by rw[←Array.toArray_toList (xs:=cl.args),hargs]
   have hat':cl.argTypes= #[t]:=by rw[←Array.toArray_toList (xs:=cl.argTypes),hat]
   rw[aD]at hl;obtain⟨ti,ht,hl⟩:=hl;obtain⟨i0,d0,zv0,hty⟩:=bM ht;have hdd:=hty.d_;have run: ∀z,(Builtin.len_ #[t] o.type #[a.eval x]).run P w= .ok z w→(execOp a.eval o).run P w= .ok (.value z) w:=fun z hz=>by simp[execOp,ho,resolve,hcal,hargs',hat',invoke,builtin,hz]
   split at hl
   ·
    rename_i hd1;rw[hd1]at hdd;have hu:P.underlying t=some .string:=by rw[hty.under];congr 1;cases d0<;>simp[tyd]at hdd;rfl
    rw[aD]at hl;obtain⟨n,hn',hK⟩:=hl;split at hn'
    ·
     rename_i s hx;cases hn';refine valq hK (run (.int .i64 s.length) ?_) (eV _ _ _ _ _) (by simp[HV.men]);have hsz:(⟨s.toArray⟩:ByteArray).size=s.length:=by simp[ByteArray.size]
     simp only[Builtin.len_,O1,M3,F8,D3 hu,E4,nF h hx,I5,goInt,hsz]
    · cases hn'
   ·
    rename_i e hd1;rw[hd1]at hdd;have hu:P.underlying t=some (.slice e):=by rw[hty.under];congr 1;cases d0<;>simp[tyd]at hdd;rw[hdd]
    rw[aD]at hl;obtain⟨l,hl1,hK⟩:=hl;obtain⟨ad,m,cap,xs,he,hm,_⟩:=jI h hl1;refine valq hK (run (.int .i64 l.length) ?_) (eV _ _ _ _ _) (by simp[HV.men]);simp[Builtin.len_,D3 hu,he,goInt,hm]
   ·
    rename_i n e hd1;rw[hd1]at hdd;have hu:P.underlying t=some (.array n e):=by rw[hty.under];congr 1;cases d0<;>simp[tyd]at hdd;rw[hdd.1,hdd.2]
    refine valq hl (run (.int .i64 n) ?_) (eV _ _ _ _ _) (by simp[HV.men]);simp[Builtin.len_,D3 hu,goInt]
   · exact hl.elim
  ·
   rename_i s x t t' hcal hargs hat;have hargs':cl.args= #[s,x]:=by rw[←Array.toArray_toList (xs:=cl.args),hargs]
   have hat':cl.argTypes= #[t,t']:=by rw[←Array.toArray_toList (xs:=cl.argTypes),hat]
   by_cases e:t'=t
   · subst e;rw[B6 rfl]at hl;obtain⟨v,ob',y,w',ρ',hK,hr,hA⟩:=aA5 (P:=P) (ty:=o.type) h hn hM hM' hl o.dst hd;exact .val (by simp[execOp,ho,resolve,hcal,hargs',hat',invoke,builtin,hr]) ⟨_,_,_,hK,hA⟩
   · rw[A7 e]at hl;obtain⟨v,ob',y,w',ρ',hK,hr,hA⟩:=aA6 (P:=P) (ty:=o.type) h hM hl o.dst hd;exact .val (by simp[execOp,ho,resolve,hcal,hargs',hat',invoke,builtin,hr]) ⟨_,_,_,hK,hA⟩
  ·
   rename_i x y t1 t2 hcal hargs hat;have hargs':cl.args= #[x,y]:=by rw[←Array.toArray_toList (xs:=cl.args),hargs]
   unfold hmax at hl;split at hl
   · rename_i k i1 k' i2 hx hy;obtain⟨rfl,hK⟩:=hl;refine valq hK ?_ (eV _ _ _ _ _) (by simp[HV.men]);simp[execOp,ho,resolve,hcal,hargs',invoke,builtin,Builtin.max_,Builtin.max2,eI h hx,eI h hy]
   · exact hl.elim
  ·
   rename_i x y t1 t2 hcal hargs hat;have hargs':cl.args= #[x,y]:=by rw[←Array.toArray_toList (xs:=cl.args),hargs]
   unfold hmax at hl;split at hl
   · rename_i k i1 k' i2 hx hy;obtain⟨rfl,hK⟩:=hl;refine valq hK ?_ (eV _ _ _ _ _) (by simp[HV.men]);simp[execOp,ho,resolve,hcal,hargs',invoke,builtin,Builtin.min_,Builtin.min2,eI h hx,eI h hy]
   · exact hl.elim
  ·
   rename_i x t hcal hargs hat;have hargs':cl.args= #[x]:=by rw[←Array.toArray_toList (xs:=cl.args),hargs]
   have hat':cl.argTypes= #[t]:=by rw[←Array.toArray_toList (xs:=cl.argTypes),hat]
   obtain⟨ob',w',hK,hr,hA⟩:=aQ1 (ty:=o.type) h hl;exact .val (y:= .tuple #[]) (by simp[execOp,ho,resolve,hcal,hargs',hat',invoke,builtin,hr]) ⟨_,_,_,hK,(hA o.dst _ hd).weaken hM⟩
  ·
   rename_i x y t t' hcal hargs hat;have hargs':cl.args= #[x,y]:=by rw[←Array.toArray_toList (xs:=cl.args),hargs]
   have hat':cl.argTypes= #[t,t']:=by rw[←Array.toArray_toList (xs:=cl.argTypes),hat]
   obtain⟨v,ob',z,w',hK,hr,hA⟩:=aZ6 (t':=t') (ty:=o.type) h hl;exact .val (y:=z) (by simp[execOp,ho,resolve,hcal,hargs',hat',invoke,builtin,hr]) ⟨_,_,_,hK,(hA o.dst hd).weaken hM⟩
  · exact hl.elim
 · rename_i t x ho;obtain⟨u,y,hK,hr,hv,hm⟩:=aA7 h hl;exact valq hK (by simp[execOp,ho,hr]) hv hm
 · rename_i x s t ho;obtain⟨u,y,hK,hr,hv,hm⟩:=aJ6 (s:=s) h hl;exact valq hK (by simp[execOp,ho,hr]) hv hm
 · rename_i t len cap ho;obtain⟨v,ob',y,w',ρ',hK,hr,hA⟩:=wW h hn hM hM' hl o.dst hd;exact .val (by simp[execOp,ho,hr]) ⟨_,_,_,hK,hA⟩
 · exact hl.elim
end
/- Ids under other names. -/
mutual
def HV.ren (m:Nat→Nat):HV→HV
 | .junk=> .junk
 | .c v=> .c v
 | .agg l=> .agg (HV.renL m l)
 | .own id n=> .own (m id) n
 | .ptr id off=> .ptr (m id) off
 | .eptr id n i sz off=> .eptr (m id) n i sz off
 | .osl id n i sz off=> .osl (m id) n i sz off
 | .mapr id=> .mapr (m id)
 | .mrow id k n=> .mrow (m id) k n
 | .clo f caps=> .clo f (HV.renL m caps)
 | .opq v=> .opq v
 | .tup l=> .tup (HV.renL m l)
def HV.renL (m:Nat→Nat):List HV→List HV
 |[]=>[]
 |v::vs=>v.ren m::HV.renL m vs
end
theorem HV.ren_isAgg (m:Nat→Nat)(v:HV):(v.ren m).isAgg=v.isAgg:=by cases v<;>simp[HV.ren,HV.isAgg]
theorem HV.renL_c (m:Nat→Nat): ∀(l:List CV),HV.renL m (l.map .c)=l.map .c
 |[]=>rfl
 |v::vs=>by simp only[D0,HV.renL,HV.ren,HV.renL_c m vs]
def HO.ren (m:Nat→Nat):HO→HO
 | .box t v=> .box t (v.ren m)
 | .row e sz l=> .row e sz l
 | .mp e sz D=> .mp e sz D
 | .dead=> .dead
 | .tab T=> .tab T
 | .hrow e sz l=> .hrow e sz (HV.renL m l)
 | .raw es k=> .raw es k
 | .it j s q l=> .it (m j) s q l
mutual
theorem kX {w:World}{ρ:Env}{O:Nat→Prop}{m:Nat→Nat}: ∀{v:HV} {cs:List Value},RepH w ρ O (v.ren m) cs↔RepH w (fun i=>ρ (m i)) O v cs
 | .junk,cs=>by simp only[HV.ren,RepH]
 | .c _,cs=>by simp only[HV.ren,RepH]
 | .agg l,cs=>by simp only[HV.ren,RepH];exact pT
 | .own ..,cs=>by simp only[HV.ren,RepH]
 | .ptr ..,cs=>by simp only[HV.ren,RepH]
 | .eptr ..,cs=>by simp only[HV.ren,RepH]
 | .osl ..,cs=>by simp only[HV.ren,RepH]
 | .mapr ..,cs=>by simp only[HV.ren,RepH]
 | .mrow ..,cs=>by simp only[HV.ren,RepH]
 | .clo f caps,cs=>by simp only[HV.ren,RepH,mP (l:=caps)]
 | .opq _,cs=>by simp only[HV.ren,RepH]
 | .tup l,cs=>by simp only[HV.ren,RepH,mP (l:=l)]
theorem pT {w:World}{ρ:Env}{O:Nat→Prop}{m:Nat→Nat}: ∀{l:List HV} {cs:List Value},RepHL w ρ O (HV.renL m l) cs↔RepHL w (fun i=>ρ (m i)) O l cs
 |[],cs=>by simp only[HV.renL,RepHL]
 |v::vs,cs=>by simp only[HV.renL,RepHL,kX (v:=v),pT (l:=vs)]
theorem mP {w:World}{ρ:Env}{O:Nat→Prop}{m:Nat→Nat}: ∀{l:List HV} {xs:List Value},RepHV w ρ O (HV.renL m l) xs↔RepHV w (fun i=>ρ (m i)) O l xs
 |[],xs=>by simp only[HV.renL,RepHV]
 |v::vs,xs=>by simp only[HV.renL,RepHV,kX (v:=v),mP (l:=vs),HV.ren_isAgg]
end
mutual
theorem men_ren {M:Nat→Prop}{m:Nat→Nat}: ∀{v:HV},(v.ren m).men M↔v.men (fun i=>M (m i))
 | .junk=>by simp only[HV.ren,HV.men]
 | .c _=>by simp only[HV.ren,HV.men]
 | .agg l=>by simp only[HV.ren,HV.men];exact oI
 | .own .. =>by simp only[HV.ren,HV.men]
 | .ptr .. =>by simp only[HV.ren,HV.men]
 | .eptr .. =>by simp only[HV.ren,HV.men]
 | .osl .. =>by simp only[HV.ren,HV.men]
 | .mapr .. =>by simp only[HV.ren,HV.men]
 | .mrow .. =>by simp only[HV.ren,HV.men]
 | .clo f caps=>by simp only[HV.ren,HV.men];exact oI
 | .opq _=>by simp only[HV.ren,HV.men]
 | .tup l=>by simp only[HV.ren,HV.men];exact oI
theorem oI {M:Nat→Prop}{m:Nat→Nat}: ∀{l:List HV},HV.menL M (HV.renL m l)↔HV.menL (fun i=>M (m i)) l
 |[]=>by simp only[HV.renL,HV.menL]
 |v::vs=>by simp only[HV.renL,HV.menL,men_ren (v:=v),oI (l:=vs)]
end
theorem oJ (m:Nat→Nat): ∀l:List HV,(HV.renL m l).length=l.length
 |[]=>rfl
 |v::vs=>by simp only[HV.renL,B0,oJ m vs]
mutual
theorem aD0 (m:Nat→Nat): ∀v:HV,(v.ren m).cells=v.cells∧(v.ren m).sto=v.sto
 | .junk=>by simp[HV.ren]
 | .c v=>by simp[HV.ren]
 | .agg l=>by simp only[HV.ren,HV.cells,HV.sto,xZ m l,J7]
 | .own .. =>by simp[HV.ren,HV.cells,HV.sto]
 | .ptr .. =>by simp[HV.ren,HV.cells,HV.sto]
 | .eptr .. =>by simp[HV.ren,HV.cells,HV.sto]
 | .osl .. =>by simp[HV.ren,HV.cells,HV.sto]
 | .mapr .. =>by simp[HV.ren,HV.cells,HV.sto]
 | .mrow .. =>by simp[HV.ren,HV.cells,HV.sto]
 | .clo .. =>by simp[HV.ren,HV.cells,HV.sto]
 | .opq _=>by simp[HV.ren]
 | .tup _=>by simp[HV.ren,HV.cells,HV.sto]
theorem xZ (m:Nat→Nat): ∀l:List HV,HV.cellsL (HV.renL m l)=HV.cellsL l∧HV.stoL (HV.renL m l)=HV.stoL l
 |[]=>by simp[HV.renL]
 |v::vs=>by simp only[HV.renL,HV.cellsL,HV.stoL,aD0 m v,xZ m vs,J7]
end
theorem yA {sz:Nat}(m:Nat→Nat): ∀l:List HV,(∀v∈HV.renL m l,v.cells=sz∧v.sto=true)↔ ∀v∈l,v.cells=sz∧v.sto=true
 |[]=>by simp[HV.renL]
 |v::vs=>by simp only[HV.renL,AK,yA m vs,aD0 m v]
variable {o:HO}{M:Nat→Prop}
theorem HO.men_ren {m:Nat→Nat}:(o.ren m).men M↔o.men (fun i=>M (m i)):=by
 cases o with
 |box t v=>exact Hl.men_ren
 |row _ _ _=>exact W8
 |mp _ _ _=>exact W8
 |dead=>exact W8
 |tab _=>exact W8
 |hrow _ _ _=>exact Hl.oI
 |raw _ _=>exact W8
 |it _ _ _ _=>exact W8
theorem HO.men_mono {M':Nat→Prop}(h: ∀i,M i→M' i)(ho:o.men M):o.men M':=by
 cases o with
 |box t v=>exact HV.men_mono h ho
 |row _ _ _=>trivial
 |mp _ _ _=>trivial
 |dead=>trivial
 |tab _=>trivial
 |hrow _ _ _=>exact HV.menL_mono h ho
 |raw _ _=>trivial
 |it _ _ _ _=>exact h _ ho
def fQ (P:Program)(f:FuncId):Bool:=
 match P.funcs[f]? with
 |some fn=>fn.body.isSome&&!(fn.name== "runtime.NumGoroutine")
 |none=>false
structure Gave (w:World)(ρ:Env)(X:Nat→Prop)(k:Nat)(r:HV)(ob':Ob)(w':World)(ρ':Env)(x:Value):Prop where
 v:RepV w' ρ' (Owned ρ' X) r x
 s:RepS w' ρ' X ob'
 mr:r.men (· <k+4)
 mo: ∀id o,ob' id=some o→id<k+4∧o.men (· <k+4)
 stay:Stay2 w (Own ρ) w' (Own ρ')
 moves:Moves (· <k) ρ ρ'
def bM5 (P:Program)(f:FuncId):Bool:=
 match P.funcs[f]? with
 |some fn=>!(fn.name== "runtime.NumGoroutine")
 |none=>false
variable {f:FuncId}{P:Program}
theorem bG4 (h:fQ P f=true):bM5 P f=true:=by
 unfold fQ at h;unfold bM5;grind
def Does (P:Program)(f:FuncId)(args:Array Value)(w:World)(R:Ending→World→Prop):Prop:=
 (fQ P f=true∧Calls P f args w R)∨(fQ P f=false∧ ∃x,(callFunc f args).run P w= .ok (.value x) w∧R (.returned x) w)
variable {R:Ending→World→Prop}{w:World}{args:Array Value}
theorem Does.mono {R':Ending→World→Prop}(h:Does P f args w R)(hr: ∀e w',R e w'→R' e w'):Does P f args w R':=
 h.imp (fun h=>⟨h.1,h.2.mono hr⟩) fun⟨h1,x,h2,h3⟩=>⟨h1,x,h2,hr _ _ h3⟩
theorem Does.of (hok:fQ P f=true)(h:Calls P f args w R):Does P f args w R:= .inl ⟨hok,h⟩
theorem Does.calls (hok:fQ P f=true)(h:Does P f args w R):Calls P f args w R:=by
 rcases h with h|h;all_goals grind
def HFn (P:Program)(f:FuncId)(args:List HV)(k:Nat)(ob:Ob)(R:HV→Ob→Prop):Prop:=
 bM5 P f=true∧ ∀(w:World) (ρ:Env) (X:Nat→Prop) (xs:List Value),RepS w ρ X ob→RepHV w ρ (Owned ρ X) args xs→(∀b,X b→b<w.heap.size)→
  Does P f xs.toArray w fun e w'=> ∃r ob' ρ' x,e= .returned x∧R r ob'∧Gave w ρ X k r ob' w' ρ' x
variable {ob:Ob}
theorem HFn.mono {args:List HV}{k:Nat}{R R':HV→Ob→Prop}(h:HFn P f args k ob R)(hr: ∀r ob',R r ob'→R' r ob'):HFn P f args k ob R':=
 ⟨h.1,fun w ρ X xs h1 h2 h3=>(h.2 w ρ X xs h1 h2 h3).mono fun _ _ ⟨r,ob',ρ',x,e1,e2,e3⟩=>⟨r,ob',ρ',x,e1,hr _ _ e2,e3⟩⟩
structure LocOk (k:Nat)(args:List HV)(ob:Ob):Prop where
 all: ∀j,j<k→ ∃o,ob j=some o
 none: ∀id o,ob id=some o→id<k∧o.men (· <k)
 args:HV.menL (· <k) args
def sub (σ:List Nat)(nid j:Nat):Nat:=if j<σ.length then σ.getD j 0 else nid+(j-σ.length)
def cJ (ob:Ob)(σ:List Nat)(nid:Nat)(lob:Ob):Ob:=fun id=>
 match σ.findIdx? (· ==id)with
 |some j=>(lob j).map (HO.ren (sub σ nid))
 |none=>if nid≤id∧id<nid+4 then(lob (σ.length+(id-nid))).map (HO.ren (sub σ nid))else ob id
def HCall (P:Program)(av:List Nat)(f:FuncId)(args:List HV)(ob:Ob)(nid:Nat)(K:HV→Ob→Prop):Prop:=
 ∃(σ:List Nat) (largs:List HV) (lob:Ob) (R:HV→Ob→Prop),HFn P f largs σ.length lob R∧LocOk σ.length largs lob∧(σ.Nodup∧ ∀s∈σ,s∉av)∧args=HV.renL (sub σ nid) largs∧
  (∀j o,lob j=some o→ob (σ.getD j 0)=some (o.ren (sub σ nid)))∧ ∀r lob',R r lob'→r.men (· <σ.length+4)→K (r.ren (sub σ nid)) (cJ ob σ nid lob')
def HCallL (P:Program)(av:List Nat)(f:FuncId)(args:List HV)(ob:Ob)(nid:Nat)(K:HV→Ob→Prop):Prop:=
 ∃(σ:List Nat) (largs:List HV) (lob:Ob) (R:HV→Ob→Prop),HFn P f largs σ.length lob R∧LocOk σ.length largs lob∧(σ.Nodup∧ ∀j,j<σ.length→σ.getD j 0∉av∨(σ.getD j 0+10000≤nid∧ ∀r lob',R r lob'→lob' j=lob j))∧
  args=HV.renL (sub σ nid) largs∧(∀j o,lob j=some o→ob (σ.getD j 0)=some (o.ren (sub σ nid)))∧ ∀r lob',R r lob'→r.men (· <σ.length+4)→K (r.ren (sub σ nid)) (cJ ob σ nid lob')
theorem HCall.L {av:List Nat}{args:List HV}{nid:Nat}{K:HV→Ob→Prop}(h:HCall P av f args ob nid K):HCallL P av f args ob nid K:=by
 obtain⟨σ,largs,lob,R,h1,h2,⟨h3,h4⟩,h5⟩:=h;exact⟨σ,largs,lob,R,h1,h2,⟨h3,fun j hj=> .inl (h4 _ (by grind))⟩,h5⟩
section
variable {P:Program}{c:Ctx}{M:Nat→Prop}{fr:Fr}{ob:Ob}{a:Act}{w:World}{ρ:Env}
theorem RepO.sub {w:World}{ρ ρ':Env}{O O':Nat→Prop}{m:Nat→Nat}{id:Nat}{o:HO}{M:Nat→Prop}(hs:Stay w O w O')(hm:Moves M (fun i=>ρ (m i)) ρ')(hmen:o.men M)(hid:ρ' id=ρ (m id))
  (h:RepO w ρ O (m id) (o.ren m)):RepO w ρ' O' id o:=by
 cases o with
 |box t v=>
  obtain⟨b,cs,h1,h2,h3⟩:=h;exact⟨b,cs,by grind,h2,RepH.stay hs hm hmen (kX.1 h3)⟩
 |row e sz l=>
  obtain⟨hd,xs,h1,h2,h3,h4⟩:=h;exact⟨hd,xs,by grind,h2.stay hs,h3,h4⟩
 |mp e sz D=>
  obtain⟨b,hf,h1,h2⟩:=h;exact⟨b,hf,by grind,h2.stay hs rfl (fun _ _ _ _ _=>rfl)⟩
 |dead=>exact hid.trans h
 |tab T=>exact⟨hid.trans h.1,mL hs h.2⟩
 |hrow e sz l=>
  obtain⟨hd,xs,h1,h2,h3,h4⟩:=h;exact⟨hd,xs,by grind,RepHL.stay hs hm hmen (pT.1 h2),(yA m l).1 h3,by grind[oJ]⟩
 |raw es clock=>
  obtain⟨b,h1,h2⟩:=h;exact⟨b,by grind,h2⟩
 |it j since seen last=>
  obtain⟨b,x,h1,h2,h3⟩:=h;refine⟨b,x,by grind,h2,fun bm hf h4=>?_⟩;obtain⟨L,e1,e2⟩:=hm j _ hmen h4;rcases e2 with rfl|⟨_,_,rfl,e3,_⟩|⟨b1,f,f',rfl,e3,_⟩
  · exact h3 _ _ e1
  · cases e3
  · cases e3;exact h3 _ _ e1
theorem RepO.unsub {w:World}{ρ ρ':Env}{O O':Nat→Prop}{m:Nat→Nat}{id:Nat}{o:HO}{M:Nat→Prop}(hs:Stay w O w O')(hm:Moves M ρ' (fun i=>ρ (m i)))(hmen:o.men M)(hid:ρ (m id)=ρ' id)
  (h:RepO w ρ' O id o):RepO w ρ O' (m id) (o.ren m):=by
 cases o with
 |box t v=>
  obtain⟨b,cs,h1,h2,h3⟩:=h;exact⟨b,cs,by grind,h2,kX.2 (RepH.stay hs hm hmen h3)⟩
 |row e sz l=>
  obtain⟨hd,xs,h1,h2,h3,h4⟩:=h;exact⟨hd,xs,by grind,h2.stay hs,h3,h4⟩
 |mp e sz D=>
  obtain⟨b,hf,h1,h2⟩:=h;exact⟨b,hf,by grind,h2.stay hs rfl (fun _ _ _ _ _=>rfl)⟩
 |dead=>exact hid.trans h
 |tab T=>exact⟨hid.trans h.1,mL hs h.2⟩
 |hrow e sz l=>
  obtain⟨hd,xs,h1,h2,h3,h4⟩:=h;exact⟨hd,xs,by grind,pT.2 (RepHL.stay hs hm hmen h2),(yA m l).2 h3,by grind[oJ]⟩
 |raw es clock=>
  obtain⟨b,h1,h2⟩:=h;exact⟨b,by grind,h2⟩
 |it j since seen last=>
  obtain⟨b,x,h1,h2,h3⟩:=h;refine⟨b,x,by grind,h2,fun bm hf h4=>?_⟩;obtain⟨L,e1,e2⟩:=hm j _ hmen h4;rcases e2 with rfl|⟨_,_,rfl,e3,_⟩|⟨b1,f,f',rfl,e3,_⟩
  · exact h3 _ _ e1
  · cases e3
  · cases e3;exact h3 _ _ e1
theorem Moves.of_eq {M:Nat→Prop}{ρ ρ':Env}(h: ∀i,M i→ρ' i=ρ i):Moves M ρ ρ':=fun i L hm hL=>⟨L,by grind,.inl rfl⟩
theorem Stay.same {w:World}{O O':Nat→Prop}(h: ∀b,b<w.heap.size→O' b→O b):Stay w O w O':=⟨fun b hb hO=>⟨rfl,fun h'=>hO (h b hb.lt h')⟩⟩
theorem eR {σ:List Nat}(hn:σ.Nodup){j:Nat}(hj:j<σ.length):σ.findIdx? (· ==σ.getD j 0)=some j:=by
 rw[J1];refine⟨hj,by grind,fun i hi=>?_⟩;have hi':i<σ.length:=by omega
 simp only[C7,B5 hj,E0,G9];grind[List.pairwise_iff_getElem]
theorem aQ5 (h:RepA' c M fr ob a w ρ){nid:Nat}(hnid: ∀i,i<4→ ¬M (nid+i)){M':Nat→Prop}(hM: ∀i,M i→M' i)(hM': ∀i,i<4→M' (nid+i)){f:FuncId}{args:List HV}{K:HV→Ob→Prop}
  {ys:List Value} (hx:RepHV w ρ (Owned ρ c.X) args ys)
  {av:List Nat} (hl:HCallL P av f args ob nid K) (d:Option Nat) (hd: ∀k,d=some k→k<c.n):
  bM5 P f=true∧Does P f ys.toArray w fun e w'=> ∃y v ob' ρ',e= .returned y∧K v ob'∧RepA' c M' (updo fr d v) ob' (a.put d y) w' ρ':=by
 obtain⟨σ,largs,lob,R,⟨hok,hF⟩,hloc,⟨hnd,_⟩,hargs,hobs,hK⟩:=hl;refine⟨hok,?_⟩;have hget: ∀j,j<σ.length→ ∃o,lob j=some o∧ob (σ.getD j 0)=some (o.ren (sub σ nid)):=fun j hj=>by
  obtain⟨o,ho⟩:=hloc.all j hj;grind
 have hσM: ∀j,j<σ.length→M (σ.getD j 0):=fun j hj=>by
  obtain⟨o,_,h2⟩:=hget j hj;exact(h.mo _ _ h2).1
 let ρc:Env:=fun j=>if j<σ.length then ρ (σ.getD j 0)else none
 let X':Nat→Prop:=fun b=>c.X b∨ ∃id L,id∉σ∧ρ id=some L∧L.has b
 have hρc: ∀j,j<σ.length→ρc j=ρ (σ.getD j 0):=fun j hj=>B6 hj;have hmem: ∀id,id∈σ→ ∃j,j<σ.length∧σ.getD j 0=id:=fun id hid=>by grind[List.mem_iff_getElem,List.getElem?_eq_getElem]
 have hin: ∀j,j<σ.length→σ.getD j 0∈σ:=fun j hj=>by grind
 have hsubj: ∀j,j<σ.length→sub σ nid j=σ.getD j 0:=fun j hj=>B6 hj;have ownedc: ∀b,Owned ρ c.X b↔Owned ρc X' b:=by
  intro b;constructor
  ·
   rintro(hb|⟨id,L,h1,h2⟩)
   · exact .inl (.inl hb)
   ·
    by_cases hid:id∈σ
    · obtain⟨j,hj,rfl⟩:=hmem id hid;exact .inr ⟨j,L,by rw[hρc j hj];exact h1,h2⟩
    · exact .inl (.inr ⟨id,L,hid,h1,h2⟩)
  ·
   rintro((hb|⟨id,L,_,h1,h2⟩)|⟨j,L,h1,h2⟩)
   · exact .inl hb
   · exact .inr ⟨id,L,h1,h2⟩
   ·
    by_cases hj:j<σ.length
    · rw[hρc j hj]at h1;exact .inr ⟨_,L,h1,h2⟩
    · simp only[ρc,A7 hj]at h1;cases h1
 have stc:Stay w (Owned ρ c.X) w (Owned ρc X'):=Stay.same (fun b _ hb=>(ownedc b).2 hb);have mvc:Moves (· <σ.length) (fun i=>ρ (sub σ nid i)) ρc:=Moves.of_eq (fun i hi=>by rw[hρc i hi,hsubj i hi]);have hRS:RepS w ρc X' lob:=by
  refine⟨fun j o ho=>?_,fun j hj=>?_,fun j j' L L' b h1 h2 h3 h4=>?_,fun j L b h1 h2 h3=>?_⟩
  · have hj:=(hloc.none j o ho).1;have:=h.s.objs _ _ (hobs j o ho);rw[←hsubj j hj]at this;exact RepO.sub stc mvc (hloc.none j o ho).2 (by rw[hρc j hj,hsubj j hj]) this
  ·
   by_cases hjl:j<σ.length
   · obtain⟨o,ho⟩:=hloc.all j hjl;rw[ho]at hj;cases hj
   · exact A7 hjl
  ·
   by_cases hj:j<σ.length
   ·
    by_cases hj':j'<σ.length
    · rw[hρc j hj]at h1;rw[hρc j' hj']at h2;have:=h.s.apart _ _ L L' b h1 h2 h3 h4;have e1:=eR hnd hj;have e2:=eR hnd hj';rw[this]at e1;rw[e1]at e2;cases e2;rfl
    · simp only[ρc,A7 hj']at h2;cases h2
   · simp only[ρc,A7 hj]at h1;cases h1
  ·
   by_cases hj:j<σ.length
   ·
    rw[hρc j hj]at h1;rcases h3 with h3|⟨id,L',hid,h4,h5⟩
    · exact h.s.xb _ L b h1 h2 h3
    · have:=h.s.apart _ _ L L' b h1 h4 h2 h5;exact hid (this▸hin j hj)
   · simp only[ρc,A7 hj]at h1;cases h1
 have hargsr:RepHV w ρc (Owned ρc X') largs ys:=by
  rw[hargs]at hx;exact RepHV.stay stc mvc hloc.args (mP.1 hx)
 have hX': ∀b,X' b→b<w.heap.size:=by
  rintro b (hb|⟨id,L,_,h1,h2⟩)
  · exact G7 (h.xlt b hb) h.base.size
  · exact Owned.lt h.s h1 h2
 refine(hF w ρc X' ys hRS hargsr hX').mono ?_;rintro e w' ⟨r,lob',ρ',x,rfl,hR,hg⟩;refine⟨x,r.ren (sub σ nid),cJ ob σ nid lob',?_⟩
 let ρn:Env:=fun id=>match σ.findIdx? (· ==id)with|some j=>ρ' j|none=>if nid≤id∧id<nid+4 then ρ' (σ.length+(id-nid))else ρ id
 have hnσ: ∀i,i<4→nid+i∉σ:=fun i hi hin'=>by
  obtain⟨j,hj,e⟩:=hmem _ hin';exact hnid i hi (e▸hσM j hj)
 have idx_none: ∀id,id∉σ→σ.findIdx? (· ==id)=none:=fun id hid=>by
  rw[O0];intro y hy;simp only[I0,AG];intro e;exact hid (e▸hy)
 have hρn1: ∀j,j<σ.length→ρn (σ.getD j 0)=ρ' j:=fun j hj=>by simp only[ρn,eR hnd hj]
 have hρn2: ∀i,i<4→ρn (nid+i)=ρ' (σ.length+i):=fun i hi=>by
  simp only[ρn,idx_none _ (hnσ i hi)];rw[B6 ⟨by omega,by omega⟩];congr 1;omega
 have hρn3: ∀id,id∉σ→ ¬(nid≤id∧id<nid+4)→ρn id=ρ id:=fun id h1 h2=>by simp only[ρn,idx_none id h1,A7 h2]
 have hob1: ∀j,j<σ.length→cJ ob σ nid lob' (σ.getD j 0)=(lob' j).map (HO.ren (sub σ nid)):=fun j hj=>by simp only[cJ,eR hnd hj]
 have hob2: ∀i,i<4→cJ ob σ nid lob' (nid+i)=(lob' (σ.length+i)).map (HO.ren (sub σ nid)):=fun i hi=>by
  simp only[cJ,idx_none _ (hnσ i hi)];rw[B6 ⟨by omega,by omega⟩];congr 2;omega
 have hob3: ∀id,id∉σ→ ¬(nid≤id∧id<nid+4)→cJ ob σ nid lob' id=ob id:=fun id h1 h2=>by simp only[cJ,idx_none id h1,A7 h2]
 have split: ∀id,(∃j,j<σ.length∧σ.getD j 0=id)∨(∃i,i<4∧id=nid+i)∨(id∉σ∧ ¬(nid≤id∧id<nid+4)):=fun id=>by
  by_cases h1:id∈σ
  · exact .inl (hmem id h1)
  ·
   by_cases h2:nid≤id∧id<nid+4
   · exact .inr (.inl ⟨id-nid,by omega,by omega⟩)
   · exact .inr (.inr ⟨h1,h2⟩)
 have hsub2: ∀j,ρn (sub σ nid j)=ρ' j∨ ¬j<σ.length+4:=fun j=>by
  by_cases hj:j<σ.length
  · exact .inl (by rw[hsubj j hj];exact hρn1 j hj)
  ·
   by_cases hj4:j<σ.length+4
   · refine .inl ?_;have:sub σ nid j=nid+(j-σ.length):=A7 hj;rw[this,hρn2 _ (by omega)];congr 1;omega
   · exact .inr hj4
 have own': ∀b,Own ρn b↔(Own ρ' b∨ ∃id L,id∉σ∧ρ id=some L∧L.has b):=by
  intro b;constructor
  ·
   rintro⟨id,L,h1,h2⟩;rcases split id with⟨j,hj,rfl⟩|⟨i,hi,rfl⟩|⟨h3,h4⟩
   · rw[hρn1 j hj]at h1;exact .inl ⟨j,L,h1,h2⟩
   · rw[hρn2 i hi]at h1;exact .inl ⟨_,L,h1,h2⟩
   · rw[hρn3 id h3 h4]at h1;exact .inr ⟨id,L,h3,h1,h2⟩
  ·
   rintro(⟨j,L,h1,h2⟩|⟨id,L,h3,h1,h2⟩)
   ·
    have hj4:j<σ.length+4:=by
     cases ho:lob' j with
     |none=>rw[hg.s.none j ho]at h1;cases h1
     |some o=>exact(hg.mo j o ho).1
    rcases hsub2 j with e|e
    · exact⟨_,L,by rw[e];exact h1,h2⟩
    · exact absurd hj4 e
   ·
    by_cases h4:nid≤id∧id<nid+4
    · exfalso;have:=(h.nid_none (hnid (id-nid) (by omega))).2;rw[show nid+(id-nid)=id from by omega]at this;rw[this]at h1;cases h1
    · exact⟨id,L,by rw[hρn3 id h3 h4];exact h1,h2⟩
 have ownedn: ∀b,Owned ρn c.X b→Owned ρ' X' b:=by
  rintro b (hb|hb)
  · exact .inl (.inl hb)
  ·
   rcases(own' b).1 hb with hb|hb
   · exact .inr hb
   · exact .inl (.inr hb)
 have stn:Stay w' (Owned ρ' X') w' (Owned ρn c.X):=Stay.same (fun b _ hb=>ownedn b hb);have ownc_of: ∀b,Own ρc b→Own ρ b:=by
  rintro b ⟨j,L,h1,h2⟩;by_cases hj:j<σ.length
  · rw[hρc j hj]at h1;exact⟨_,L,h1,h2⟩
  · simp only[ρc,A7 hj]at h1;cases h1
 have hs2:Stay2 w (Own ρ) w' (Own ρn):=by
  refine⟨fun b hb hO=>hg.stay.block b hb (fun h1=>hO (ownc_of b h1)),fun b hb=>?_,hg.stay.size,hg.stay.os,hg.stay.tape,hg.stay.output⟩;rcases(own' b).1 hb with hb|⟨id,L,_,h1,h2⟩
  · exact(hg.stay.own b hb).imp (ownc_of b) id
  · exact .inl ⟨id,L,h1,h2⟩
 have hmv:Moves M ρ ρn:=by
  intro id L' hm hL;rcases split id with⟨j,hj,rfl⟩|⟨i,hi,rfl⟩|⟨h3,h4⟩
  · rw[hρn1 j hj]at hL;obtain⟨L,h1,h2⟩:=hg.moves j L' hj hL;rw[hρc j hj]at h1;exact⟨L,h1,h2⟩
  · exact absurd hm (hnid i hi)
  · rw[hρn3 id h3 h4]at hL;exact⟨L',hL,.inl rfl⟩
 have mvn:Moves (· <σ.length+4) ρ' (fun i=>ρn (sub σ nid i)):=Moves.of_eq (fun i hi=>(hsub2 i).resolve_right (fun e=>e hi));have hM4: ∀i,i<σ.length+4→M' (sub σ nid i):=fun i hi=>by
  by_cases hj:i<σ.length
  · rw[hsubj i hj];exact hM _ (hσM i hj)
  · have:sub σ nid i=nid+(i-σ.length):=A7 hj;rw[this];exact hM' _ (by omega)
 have hmr:(r.ren (sub σ nid)).men M':=men_ren.2 (HV.men_mono hM4 hg.mr);refine⟨ρn,rfl,hK r lob' hR hg.mr,h.step hM hs2 hmv ⟨fun id o ho=>?_,fun id hid=>?_,?_,?_⟩ (.inr ⟨?_,?_⟩) hmr (fun id o ho=>?_) hd⟩
 ·
  rcases split id with⟨j,hj,rfl⟩|⟨i,hi,rfl⟩|⟨h3,h4⟩
  ·
   rw[hob1 j hj,C8]at ho;obtain⟨o',ho',rfl⟩:=ho;have:=RepO.unsub stn mvn (hg.mo j o' ho').2 ((hsub2 j).resolve_right (fun e=>e (by omega))) (hg.s.objs j o' ho')
   rwa [hsubj j hj]at this
  ·
   rw[hob2 i hi,C8]at ho;obtain⟨o',ho',rfl⟩:=ho;have:=RepO.unsub stn mvn (hg.mo _ o' ho').2 ((hsub2 _).resolve_right (fun e=>e (by omega))) (hg.s.objs _ o' ho');have e:sub σ nid (σ.length+i)=nid+i:=by
    have: ¬σ.length+i<σ.length:=by omega
    rw[Hl.sub,A7 this];omega
   rwa [e]at this
  ·
   rw[hob3 id h3 h4]at ho;refine RepO.stay (hs2.stay c.X) hmv (h.mo id o ho).2 (hρn3 id h3 h4) (fun L b h1 h2=>?_) (h.s.objs id o ho);refine hg.stay.block b (Owned.lt h.s h1 h2) ?_;rintro⟨j,L',h5,h6⟩;by_cases hj:j<σ.length
   · rw[hρc j hj]at h5;have:=h.s.apart _ _ L L' b h1 h5 h2 h6;exact h3 (this▸hin j hj)
   · simp only[ρc,A7 hj]at h5;cases h5
 ·
  rcases split id with⟨j,hj,rfl⟩|⟨i,hi,rfl⟩|⟨h3,h4⟩
  · rw[hob1 j hj,U4]at hid;rw[hρn1 j hj];exact hg.s.none j hid
  · rw[hob2 i hi,U4]at hid;rw[hρn2 i hi];exact hg.s.none _ hid
  · rw[hob3 id h3 h4]at hid;rw[hρn3 id h3 h4];exact h.s.none id hid
 ·
  have other: ∀j L b id L2,ρ' j=some L→L.has b→id∉σ→ρ id=some L2→L2.has b→False:=fun j L b id L2 h1 h2 h3 h4 h5=>
   hg.s.xb j L b h1 h2 (.inr ⟨id,L2,h3,h4,h5⟩)
  have norm: ∀id L,ρn id=some L→(∃j,j<σ.length+4∧id=sub σ nid j∧ρ' j=some L)∨(id∉σ∧ρ id=some L):=fun id L hL=>by
   rcases split id with⟨j,hj,rfl⟩|⟨i,hi,rfl⟩|⟨h3,h4⟩
   · rw[hρn1 j hj]at hL;exact .inl ⟨j,by omega,(hsubj j hj).symm,hL⟩
   ·
    rw[hρn2 i hi]at hL;refine .inl ⟨σ.length+i,by omega,?_,hL⟩;have: ¬σ.length+i<σ.length:=by omega
    rw[Hl.sub,A7 this];omega
   · rw[hρn3 id h3 h4]at hL;exact .inr ⟨h3,hL⟩
  intro id id' L L' b h1 h2 h3 h4;rcases norm id L h1 with⟨j,hj,rfl,e1⟩|⟨hn1,e1⟩<;>rcases norm id' L' h2 with⟨j',hj',rfl,e2⟩|⟨hn2,e2⟩
  · rw[hg.s.apart j j' L L' b e1 e2 h3 h4]
  · exact(other j L b id' L' e1 h3 hn2 e2 h4).elim
  · exact(other j' L' b id L e2 h4 hn1 e1 h3).elim
  · exact h.s.apart id id' L L' b e1 e2 h3 h4
 ·
  intro id L b h1 h2 hX;rcases split id with⟨j,hj,rfl⟩|⟨i,hi,rfl⟩|⟨h3,h4⟩
  · rw[hρn1 j hj]at h1;exact hg.s.xb j L b h1 h2 (.inl hX)
  · rw[hρn2 i hi]at h1;exact hg.s.xb _ L b h1 h2 (.inl hX)
  · rw[hρn3 id h3 h4]at h1;exact h.s.xb id L b h1 h2 hX
 · exact kX.2 (RepH.stay stn mvn hg.mr hg.v.1)
 · rw[HV.ren_isAgg];exact hg.v.2
 ·
  rcases split id with⟨j,hj,rfl⟩|⟨i,hi,rfl⟩|⟨h3,h4⟩
  · rw[hob1 j hj,C8]at ho;obtain⟨o',ho',rfl⟩:=ho;exact⟨hM _ (hσM j hj),HO.men_ren.2 (HO.men_mono hM4 (hg.mo j o' ho').2)⟩
  · rw[hob2 i hi,C8]at ho;obtain⟨o',ho',rfl⟩:=ho;exact⟨hM' i hi,HO.men_ren.2 (HO.men_mono hM4 (hg.mo _ o' ho').2)⟩
  · rw[hob3 id h3 h4]at ho;exact⟨hM _ (h.mo id o ho).1,HO.men_mono hM (h.mo id o ho).2⟩
end
end Go.Hl
