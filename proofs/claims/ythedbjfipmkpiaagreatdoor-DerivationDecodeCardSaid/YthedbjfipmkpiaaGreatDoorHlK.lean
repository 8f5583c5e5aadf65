/- HL, part K: the operations in one. By an AI agent. -/
import Derived.Test.YthedbjfipmkpiaaGreatDoorHlX
import Derived.Lib.AppendStr
import Derived.Laws.IdiomStrings
set_option linter.unusedSimpArgs false
set_option linter.unusedVariables false
set_option linter.defProp false
namespace Go.Hl
open Go Go.Lib
def dG (b:UInt8):CV:= .int .u8 b.toNat
def iS :List CV→Option (List UInt8)
 |[]=>some []
 | .int .u8 n::l=>if 0≤n∧n<256 then(iS l).map (UInt8.ofNat n.toNat::·)else none
 |_::_=>none
theorem bytesC_map : ∀(bs:List UInt8),iS (bs.map dG)=some bs
 |[]=>rfl
 |b::bs=>by
  have h:=b.toNat_lt;simp only[List.map_cons,dG,iS];rw[if_pos ⟨by omega,by omega⟩,show bs.map dG=bs.map fun b=>CV.int .u8 b.toNat from rfl]at*;have ih:=bytesC_map bs;rw[show bs.map dG=bs.map fun b=>CV.int .u8 b.toNat from rfl]at ih;simp_all
theorem aB9 : ∀{l:List CV} {bs:List UInt8},iS l=some bs→l=bs.map dG
 |[],bs,h=>by grind[iS,Option.some.injEq]
 | .int .u8 n::l,bs,h=>by
  simp only[iS]at h;split at h
  · rename_i hn;obtain⟨bs',h1,rfl⟩:=Option.map_eq_some_iff.1 h;have ih:=aB9 h1;grind[dG,UInt8.toNat_ofNat',Nat.mod_eq_of_lt]
  grind
 | .bool _::_,_,h| .str _::_,_,h| .agg _::_,_,h| .nils::_,_,h| .slc _::_,_,h| .rp _::_,_,h| .fn _::_,_,h| .nilp::_,_,h| .nilf::_,_,h| .nili::_,_,h| .nilm::_,_,h| .ifc _ _::_,_,h=>by simp[iS]at h
 | .int .i8 _::_,_,h| .int .i16 _::_,_,h| .int .i32 _::_,_,h| .int .i64 _::_,_,h| .int .u16 _::_,_,h| .int .u32 _::_,_,h| .int .u64 _::_,_,h=>by simp[iS]at h
theorem xQ {w:World}{O:Nat→Prop}: ∀(bs:List UInt8),RepL w O (bs.map dG) (strCells ⟨bs.toArray⟩)
 |[]=>by simp[RepL,strCells]
 |b::bs=>by
  simp only[List.map_cons,RepL];refine⟨[.int .u8 b.toNat],strCells ⟨bs.toArray⟩,by simp[strCells],by simp[dG,RepC],xQ bs⟩
section
variable {P:Program}{c:Ctx}{M M':Nat→Prop}{fr:Fr}{ob:Ob}{a:Act}{w w':World}{ρ:Env}
theorem xR {t u ty e:TypeId}{i:TypeInfo}(ht:P.underlying t=some (.slice e))(hu:P.underlying u=some .string)(hi:P.info? e=some i)(hz:i.zero=some (.int .u8 0))(hsize:i.size=1)(hby:i.bytes=1)
  (v:Value) (n:Nat) (xs:List Value) (hown:w.ownsRow 0 e 1 v n xs) (s:ByteArray) (hs0:0<s.size) (h63:n+s.size≤maxLen) (hbytes:n+s.size≤140737488355328):
  ∃v' w',(Builtin.append_ #[t,u] ty #[v,.string s]).run P w= .ok v' w'∧w'.ownsRow 0 e 1 v' (n+s.size) (xs++strCells s)∧w.grownBy w' v.ownBlock∧
   (v'.ownBlock=v.ownBlock∨v'.ownBlock=some w.heap.size):=by
 have hsmall:n+s.size≤9223372036854775807:=by simp only[maxLen]at h63;omega
 have hxl:xs.length=n:=by simpa using hown.1
 have hlen:(xs++strCells s).length=(n+s.size)*1:=by rw[List.length_append,hxl,strCells_length,Nat.mul_one]
 rcases hown.2 with⟨rfl,rfl⟩|⟨g,cap,cur,rfl,hbg,hg,hnc,hcm,hcs,htake⟩
 ·
  have hx:xs=[]:=List.eq_nil_of_length_eq_zero hxl;subst hx;have hr:=run_append_nil_string (P:=P) w t u ty e i _ ht hu hi hz s hs0 (by omega) (by rw[hby];omega);have hge:=grownCap_ge w s.size 0 e;have hcm:grownCap w s.size 0 e≤maxLen:=grownCap_le_maxLen w s.size 0 e (by omega);simp only[Nat.zero_add,List.nil_append];refine⟨_,_,hr,⟨by rw[strCells_length,Nat.mul_one],.inr ⟨w.heap.size,_,_,rfl,Nat.zero_le _,heap_alloc_new w.drew _,hge,hcm,?_,?_⟩⟩,⟨rfl,rfl,rfl,by simp,fun k hk _=>Go.heap_alloc_old w.drew _ hk⟩,.inr (by simp[Value.ownBlock])⟩
  · have:s.data.size=s.size:=rfl;simp only[Array.size_append,Array.size_map,size_zeroCells,Value.cells,List.size_toArray,List.length_singleton,this];omega
  ·
   have h1:(s.data.map (fun b=>Value.int .u8 b.toNat)).toList=strCells s:=by simp[strCells]
   rw[Array.toList_append,h1,Nat.mul_one,←strCells_length s];exact List.take_left
 ·
  rw[Nat.mul_one]at hcs htake;by_cases hroom:n+s.size≤cap
  ·
   have hr:=run_append_room_string (P:=P) w t u ty e i ht hu hi hsize g n cap cur hg s hroom (by omega);refine⟨_,_,hr,⟨hlen,.inr ⟨g,cap,_,rfl,hbg,setRow_heap w g cur _ e _ hg,hroom,hcm,?_,?_⟩⟩,⟨rfl,rfl,rfl,by simp,fun k _ hk=>setRow_other w g k _ (fun e=>hk (by simp[Value.ownBlock,e]))⟩,.inl (by simp[Value.ownBlock])⟩
   · simp only[List.size_toArray,List.length_append,List.length_take,List.length_drop,Array.length_toList,strCells_length];omega
   · rw[htake,←hlen];exact List.take_left
  ·
   have holds: ∀j u,xs[j]? =some u→w.cell? ((⟨g,0,none⟩:Addr).add j)=some u:=hown.cells (g:=g) rfl;have hr:=run_append_grow_string (P:=P) w t u ty e i _ ht hu hi hz ⟨g,0,none⟩ n cap xs (by rw[hsize];exact hown.1) holds s (by omega) (by omega) (growslice_fits (by omega) (by rw[hby];omega));have hge:=grownCap_ge w (n+s.size) cap e;have hcm:grownCap w (n+s.size) cap e≤maxLen:=grownCap_le_maxLen w (n+s.size) cap e h63;refine⟨_,_,hr,⟨hlen,.inr ⟨w.heap.size,_,_,rfl,Nat.zero_le _,heap_alloc_new w.drew _,hge,hcm,?_,?_⟩⟩,⟨rfl,rfl,rfl,by simp,fun k hk _=>Go.heap_alloc_old w.drew _ hk⟩,.inr (by simp[Value.ownBlock])⟩
   · simp only[Array.size_append,List.size_toArray,size_zeroCells,strCells_length,hxl,Value.cells,List.size_toArray,List.length_singleton];omega
   · simp only[Array.toList_append,List.append_assoc];rw[←List.append_assoc,←hlen];exact List.take_left
theorem aW2 (h:RepA' c M fr ob a w ρ){src dst e:TypeId}(hs:P.underlying src=some (.slice e))(he:P.underlying e=some (.int .u8))(hd:P.underlying dst=some .string){x:Operand}{l:List CV}{bs:List UInt8}(hx:ev fr x= .c (.slc l))(hb:iS l=some bs):
  (convert src dst (a.eval x)).run P w= .ok (.string ⟨bs.toArray⟩) w:=by
 have hr:=h.ev x (by grind);rw[hx]at hr;have h1:=hr.single rfl;simp only[RepC,List.cons.injEq,and_true]at h1;obtain⟨ad,cap,xs,sz,he1,h2,h3,h4,h5,h6⟩:=h1;have hl:=aB9 hb;subst hl;have hxs:xs=bs.map fun b=>Value.int .u8 b.toNat:=by
  have key: ∀(bs:List UInt8) (xs:List Value),RepL w (Owned ρ c.X) (bs.map dG) xs→xs=bs.map fun b=>Value.int .u8 b.toNat:=by
   intro bs;induction bs with
   |nil=>grind[RepL]
   |cons b bs ih=>
    intro xs h;simp only[List.map_cons,RepL,dG,RepC]at h;obtain⟨c1,c2,rfl,rfl,h7⟩:=h;rw[ih c2 h7];rfl
  exact key bs xs h2
 rw[he1,List.length_map];cases ad with
 |none=>
  have hz:=h5 rfl;have hb0:bs=[]:=List.eq_nil_of_length_eq_zero (by grind);subst hb0;rw[run_convert_bytes_string w src dst e none _ cap hs he hd];rfl
 |some ad=>
  refine run_convert_bytes_back w src dst e ad cap bs hs he hd fun j hj=>?_;have:=(h6 ad rfl).1 j (.int .u8 bs[j].toNat) (by grind);exact this
def happends (P:Program)(t u:TypeId)(s x:HV)(ob:Ob)(K:HV→Ob→Prop):Prop:=
 hlift (aP P t) fun ti=>hlift (aP P u) fun tu=>match ti.d,tu.d,x with
  | .slice e,.string,.c (.str b)=>hlift (aP P e) fun te=>(te.size=1∧te.bytes=1∧te.z= .int .u8 0)∧
   match s with
   | .own id n=>match ob id with
    |some (.row e' sz l)=>(n=l.length∧e'=e∧sz=1)∧0<b.length∧l.length+b.length≤140737488355328∧K (.own id (l++b.map dG).length) (upd ob id (some (.row e sz (l++b.map dG))))
    |_=>False
   |_=>False
  |_,_,_=>False
theorem zZ (h:RepA' c M fr ob a w ρ)(hM: ∀i,M i→M' i){t u ty:TypeId}{s x:Operand}{K:HV→Ob→Prop}
  (hl:happends P t u (ev fr s) (ev fr x) ob K) (d:Option Nat) (hd: ∀k,d=some k→k<c.n):
  ∃v ob' y w' ρ',K v ob'∧(Builtin.append_ #[t,u] ty #[a.eval s,a.eval x]).run P w= .ok y w'∧RepA' c M' (updo fr d v) ob' (a.put d y) w' ρ':=by
 unfold happends at hl;rw[aC]at hl;obtain⟨ti,ht,hl⟩:=hl;rw[aC]at hl;obtain⟨tu,htu,hl⟩:=hl;obtain⟨i0,d0,zv0,hty⟩:=bB ht;obtain⟨i1,d1,zv1,htyu⟩:=bB htu;split at hl
 ·
  rename_i e b hde hdu hx;rw[aC]at hl;obtain⟨te,hte,⟨h1,h2,h3⟩,hl⟩:=hl;obtain⟨ie,de,zve,htye⟩:=bB hte;have hdd:=hty.d_;rw[hde]at hdd;have hu:P.underlying t=some (.slice e):=by
   rw[hty.under];congr 1;cases d0<;>simp[tyd]at hdd;rw[hdd]
  have hdd2:=htyu.d_;rw[hdu]at hdd2;have hu2:P.underlying u=some .string:=by rw[htyu.under];congr 1;cases d1<;>simp[tyd]at hdd2;rfl
  have hz:ie.zero=some (.int .u8 0):=by
   have r:=htye.rep w (fun _=>False);have ag:=htye.agg;rw[h3]at r ag;rw[cells_single ag]at r;simp only[RepC,List.cons.injEq,and_true]at r;rw[htye.zero,r]
  split at hl
  ·
   rename_i id n hs;split at hl
   ·
    rename_i e' sz l ho;obtain⟨⟨rfl,rfl,rfl⟩,hb0,hb,hK⟩:=hl;obtain⟨hdv,xs,hρ,hse,hlen,hl1,hcs,how⟩:=mA h hs ho rfl;have hbs:(⟨b.toArray⟩:ByteArray).size=b.length:=by simp[ByteArray.size]
    obtain⟨v',w',hrun,how',hgr,hblk⟩:=xR (P:=P) (ty:=ty) hu hu2 htye.info hz (by rw[htye.size,h1]) (by rw[htye.bytes,h2]) hdv l.length xs how ⟨b.toArray⟩ (by rw[hbs];exact hb0) (by rw[hbs];unfold maxLen;omega) (by rw[hbs];exact hb);rw[hbs]at how';have hlv:Hl.hlen v'=l.length+b.length:=ownsRow_size how';refine⟨_,_,_,_,upd ρ id (some (.hdr v')),hK,by rw[hse,lM h hx];exact hrun,?_⟩;refine h.rehdr hM (hM _ (h.mo id _ ho).1) (.inr ⟨hdv,hρ,by omega⟩) hgr.os hgr.tape hgr.output hgr.size (fun b hb' hne=>hgr.block b hb' (fun e=>hne _ hρ (by simpa[Loc.has]using e.symm)))
     (fun g hg=>?_) ?_ (by rw[hlv,List.length_append,List.length_map]) (fun hst=>?_) hd
    ·
     rcases hblk with hb2|hb2
     · exact .inr ⟨_,hρ,by simpa[Loc.has]using hb2.symm.trans hg⟩
     · rw[hb2]at hg;cases hg;exact .inl (Nat.le_refl _)
    · rcases how'.2 with⟨rfl,_⟩|⟨g,cap,cur,rfl,_⟩<;>simp[Value.oneCell']
    ·
     refine⟨v',xs++strCells ⟨b.toArray⟩,aT _ _ _,dY.2 ⟨xs,_,rfl,hl1.stay hst,xQ b⟩,fun v hv=>?_,?_⟩
     ·
      rcases List.mem_append.1 hv with hv|hv
      · exact hcs v hv
      · obtain⟨y,_,rfl⟩:=List.mem_map.1 hv;rfl
     · rw[List.length_append,List.length_map];exact how'
   · exact hl.elim
  · exact hl.elim
 · exact hl.elim
end
end Go.Hl
namespace Go.Hl
open Go
def hun (op:UnOp)(x:HV)(K:HV→Prop):Prop:=
 match op,x with
 | .not,.c (.bool b)=>K (.c (.bool (!b)))
 | .neg,.c (.int k n)=>K (.c (.int k (k.wrap (0-n))))
 | .xor,.c (.int k n)=>K (.c (.int k (k.wrap (BitVec.ofInt k.bits (if k.signed then-1 else k.max)^^^BitVec.ofInt k.bits n).toNat)))
 | .plus,x=>False∧K x
 |_,_=>False
def hconv (P:Program)(src dst:TypeId)(x:HV)(K:HV→Prop):Prop:=
 hlift (aP P src) fun ts=>hlift (aP P dst) fun td=>match ts.d,td.d,x with
  |_,.int k,.c (.int _ n)=>K (.c (.int k (k.wrap n)))
  |_,.string,.c (.str s)=>K (.c (.str s))
  | .slice e,.string,.c (.slc l)=>hlift (aP P e) fun te=>te.d= .int .u8∧hlift (iS l) fun bs=>K (.c (.str bs))
  |_,_,_=>False
def hindex (P:Program)(t:TypeId)(x i:HV)(K:HV→Prop):Prop:=
 hlift (aP P t) fun ti=>match ti.d,x,i with
  | .string,.c (.str s),.c (.int _ i)=>(0≤i∧i<(s.length:Int))∧K (.c (.int .u8 (s.getD i.toNat 0).toNat))
  | .array m e,x,.c (.int _ i)=>hlift (aP P e) fun te=>(x.isAgg=true∧x.sto=true∧0≤i∧i<(m:Int))∧hlift (HV.getAt (i.toNat*te.size) te.size te.d.isAgg x) K
  |_,_,_=>False
def hext (x:HV)(i:Nat)(K:HV→Prop):Prop:=
 match x with
 | .tup l=>hlift l[i]? K
 |_=>False
def hclo (f:FuncId)(caps:List HV)(K:HV→Prop):Prop:=
 match caps with
 |[]=>K (.c (.fn f))
 |caps=>(∀v∈caps,v≠ .junk)∧K (.clo f caps)
def hmax (mx:Bool)(x y:HV)(K:HV→Prop):Prop:=
 match x,y with
 | .c (.int k a),.c (.int k' b)=>k=k'∧K (.c (.int k (if mx then(if b>a then b else a)else(if b<a then b else a))))
 |_,_=>False
def live (x:HV)(ob:Ob):Prop:=
 match x with
 | .c (.rp _)=>True
 | .c (.fn _)=>True
 | .clo _ _=>True
 | .ptr id _=>HO.isBox (ob id)=true
 | .eptr id n _ _ _=>HO.isRow n (ob id)
 |_=>False
def TyD.plain :TyD→Bool
 | .bool| .int _| .string| .array _ _| .struct _=>true
 |_=>false
def hmkIface (P:Program)(t:TypeId)(x:HV)(K:HV→Prop):Prop:=
 hlift (aP P t) fun ti=>match x with
  | .c v=>ti.d.plain=true∧K (.c (.ifc t v))
  |_=>False
def hassert (P:Program)(t:TypeId)(x:HV)(K:HV→Prop):Prop:=
 hlift (aP P t) fun ti=>match x with
  | .c (.ifc t' v)=>ti.d.plain=true∧K (if t'=t then .tup [.c v,.c (.bool true)]else .tup [.c ti.z,.c (.bool false)])
  |_=>False
def hmakeSlice (P:Program)(t:TypeId)(len cap:HV)(nid:Nat)(ob:Ob)(K:HV→Ob→Prop):Prop:=
 hlift (aP P t) fun ti=>match ti.d,len,cap with
  | .slice e,.c (.int _ l),.c (.int _ c)=>hlift (aP P e) fun te=>if l=0 then(l=0∧0≤c∧c*te.bytes≤140737488355328∧c≤140737488355328)∧K (.own nid 0) (upd ob nid (some (.row e te.size [])))
   else(0≤l∧l=c∧te.size=1∧c*te.bytes≤140737488355328∧c≤140737488355328)∧K (.own nid l.toNat) (upd ob nid (some (.row e te.size (List.replicate l.toNat te.z))))
  |_,_,_=>False
def hop (P:Program)(nid:Nat)(o:Op)(e:Operand→HV)(ob:Ob)(K:HV→Ob→Prop):Prop:=
 match o with
 | .move x| .assign x=>e x≠ .junk∧K (e x) ob
 | .pick c a b=>hpick (e c) (e a) (e b) fun v=>v≠ .junk∧K v ob
 | .alloc t=>hlift (aP P t) fun ti=>K (.ptr nid 0) (upd ob nid (some (.box t (.c ti.z))))
 | .box t x=>e x≠ .junk∧K (.ptr nid 0) (upd ob nid (some (.box t (e x))))
 | .build t parts=>hlift (aP P t) fun ti=>gP ti parts.toList e fun v=>K v ob
 | .buildSlice t len parts=>hlift (aP P t) fun ti=>match ti.d with
  | .slice el=>hlift (aP P el) fun te=>hlift (hclosed e parts.toList 0 te.size) fun l=>(len=l.length∧len*te.size≤2^24)∧K (.own nid len) (upd ob nid (some (.row el te.size l)))
  |_=>False
 | .load t x=>hlift (aP P t) fun ti=>hload ti (e x) ob fun v=>K v ob
 | .store t x y=>hlift (aP P t) fun ti=>hstore ti (e x) (e y) ob K
 | .nilCheck x=>live (e x) ob∧K (e x) ob
 | .binOp op t x y _=>jB P op t (e x) (e y) fun v=>K (.c v) ob
 | .unOp op _ x=>hun op (e x) fun v=>K v ob
 | .convert s d x=>hconv P s d (e x) fun v=>K v ob
 | .makeFunc (.func f) first caps=>first= #[]∧hclo f (caps.toList.map e) fun v=>K v ob
 | .slice t x lo hi none=>hslice2 P t (e x) (lo.map e) (hi.map e) ob fun v=>K v ob
 | .slice t x lo (some hi) (some mx)=>hslice3 P t (e x) (lo.map e) (e hi) (e mx) fun v=>K v ob
 | .makeMap t none=>hmakeMap P t nid ob K
 | .lookup t m k false=>hlookup P t (e m) (e k) ob fun v=>K v ob
 | .mapUpdate t m k v=>hmapUpdate P t (e m) (e k) (e v) ob K
 | .fieldAddr t x f=>hfieldAddr P t (e x) f ob fun v=>K v ob
 | .field t x f=>((e x).isAgg=true∧(e x).sto=true)∧hfield P t f fun off tf=>hlift (HV.getAt off tf.size tf.d.isAgg (e x)) fun v=>K v ob
 | .indexAddr t x i=>hindexAddr P t (e x) (e i) ob fun v=>K v ob
 | .index t x i=>hindex P t (e x) (e i) fun v=>K v ob
 | .extract x i=>hext (e x) i fun v=>v≠ .junk∧K v ob
 | .call c=>match c.callee,c.args.toList,c.argTypes.toList with
  | .builtin .len,[x],[t]=>hlift (aP P t) fun ti=>match ti.d with
   | .string=>hlift (match e x with| .c (.str s)=>some s.length|_=>none) fun n=>K (.c (.int .i64 n)) ob
   | .slice _=>hlift (hread (e x) ob) fun l=>K (.c (.int .i64 l.length)) ob
   | .array n _=>K (.c (.int .i64 n)) ob
   |_=>False
  | .builtin .append,[s,x],[t,t']=>if t'=t then happend2 P t (e s) (e x) nid ob K else happends P t t' (e s) (e x) ob K
  | .builtin .max,[x,y],[_,_]=>hmax true (e x) (e y) fun v=>K v ob
  | .builtin .min,[x,y],[_,_]=>hmax false (e x) (e y) fun v=>K v ob
  | .builtin .clear,[x],[t]=>hclear P t (e x) ob K
  | .builtin .copy,[x,y],[t,_]=>hcopy P t (e x) (e y) ob K
  |_,_,_=>False
 | .makeInterface t x=>hmkIface P t (e x) fun v=>K v ob
 | .typeAssert x _ t true=>hassert P t (e x) fun v=>K v ob
 | .makeSlice t len cap=>hmakeSlice P t (e len) (e cap) nid ob K
 |_=>False
section
variable {P:Program}{c:Ctx}{M M':Nat→Prop}{fr:Fr}{ob:Ob}{a:Act}{w:World}{ρ:Env}
theorem RepA'.weaken (h:RepA' c M fr ob a w ρ)(hM: ∀i,M i→M' i):RepA' c M' fr ob a w ρ:=
 ⟨h.s,h.f,fun t=>HV.men_mono hM (h.mf t),fun id o ho=>⟨hM _ (h.mo id o ho).1,by
  have h2:=(h.mo id o ho).2;cases o with
  |box t v=>exact HV.men_mono hM h2
  |row _ _ _=>trivial
  |mp _ _ _=>trivial
  |dead=>trivial
  |tab _=>trivial
  |hrow _ _ _=>exact HV.menL_mono hM h2
  |raw _ _=>trivial
  |it _ _ _ _=>exact hM _ h2⟩,fun id hid=>hM _ (h.m0 id hid),h.base,h.moves,h.defers,h.size,h.xlt⟩
def Gives (P:Program)(o:Oper)(a:Act)(w:World)(R:Value→World→Prop):Prop:=
 ∃y w',R y w'∧((execOp a.eval o).run P w= .ok (.value y) w'∨((execOp a.eval o).run P w= .ok .skip w'∧y=undef))
theorem Gives.val {o:Oper}{R:Value→World→Prop}{y:Value}{w':World}(h:(execOp a.eval o).run P w= .ok (.value y) w')(hr:R y w'):Gives P o a w R:=⟨y,w',hr,.inl h⟩
theorem aN4 (h:RepA' c M fr ob a w ρ): ∀(l:List Operand),(∀v∈l.map (ev fr),v≠ .junk)→RepHV w ρ (Owned ρ c.X) (l.map (ev fr)) (l.map a.eval)
 |[],_=>by simp[RepHV]
 |x::xs,hj=>by
  simp only[List.map_cons,bK];exact⟨_,_,rfl,h.ev x (hj _ (by simp)),aN4 h xs (fun v hv=>hj v (by grind))⟩
theorem bC9 (h:RepA' c M fr ob a w ρ): ∀(l:List Operand),HV.menL M (l.map (ev fr))
 |[]=>by simp[HV.menL]
 |x::xs=>by simp only[List.map_cons,HV.menL];exact⟨h.evm x,bC9 h xs⟩
theorem gC {op:BinOp}{t:TypeId}{x y:Operand}{u v:Value}(h1:u≠ .nilIface)(h2:Value.isAgg' u=true→P.eqGuardType P.depth t=false):(eqGuard op t x y u v).run P w= .ok () w:=by
 have key:op= .eql∨op= .neq→(eqGuard op t x y u v).run P w= .ok () w:=by
  rintro(rfl|rfl)<;>unfold eqGuard<;>cases u<;>first|exact absurd rfl h1|(cases v<;>first|rfl|simp[h2 rfl])
 cases op<;>first|exact key (.inl rfl)|exact key (.inr rfl)|rfl
theorem bS0 {x:Value}{cs:List Value}(h:Value.isAgg' x=true)(e:x.cells.toList=cs):x= .agg cs.toArray:=by
 cases x<;>simp[Value.isAgg']at h;simp only[Value.cells]at e;rw[←e]
theorem aC0 {w:World}{ρ:Env}{O:Nat→Prop}{v:HV}: ∀{l:List HV} {xs:List Value} {i:Nat},RepHV w ρ O l xs→l[i]? =some v→ ∃x,xs[i]? =some x∧RepV w ρ O v x
 |[],xs,i,_,hi=>by grind
 |u::us,xs,0,h,hi=>by
  rw[bK]at h;grind
 |u::us,xs,i+1,h,hi=>by
  rw[bK]at h;obtain⟨y,ys,rfl,h1,h2⟩:=h;simp only[List.getElem?_cons_succ]at hi⊢;exact aC0 h2 hi
theorem aN5 {M:Nat→Prop}{v:HV}: ∀{l:List HV} {i:Nat},HV.menL M l→l[i]? =some v→v.men M
 |[],i,_,hi=>by grind
 |u::us,0,h,hi=>by grind[List.getElem?_cons_zero,Option.some.injEq,HV.menL]
 |u::us,i+1,h,hi=>by simp only[List.getElem?_cons_succ]at hi;simp only[HV.menL]at h;exact aN5 h.2 hi
theorem vM {t:TypeId}{ti:TyI}{i:TypeInfo}{d:TypeDesc}{zv:Value}(hty:TyOk P t ti i d zv)(hp:ti.d.plain=true): ∀ms,d≠ .interface ms:=by
 intro ms e;have:=hty.d_;rw[e]at this;rw[←this]at hp;cases hp
theorem aA0 (h:RepA' c M fr ob a w ρ){t:TypeId}{x:Operand}{K:HV→Prop}(hl:hmkIface P t (ev fr x) K):
  ∃u y,K u∧(Instr.makeInterface t (a.eval x)).run P w= .ok y w∧RepV w ρ (Owned ρ c.X) u y∧u.men M:=by
 unfold hmkIface at hl;rw[aC]at hl;obtain⟨ti,ht,hl⟩:=hl;split at hl
 ·
  rename_i v hx;obtain⟨hp,hK⟩:=hl;obtain⟨i,d,zv,hty⟩:=bB ht;have hr:=h.ev x (by rw[hx];simp);rw[hx]at hr;obtain⟨r1,r2⟩:=hr;simp only[RepH]at r1;refine⟨_,.iface t (a.eval x),hK,?_,bW ?_ rfl rfl,by simp[HV.men]⟩
  · have hni:=vM hty hp;have hu:=run_underlying (w:=w) hty.under;unfold Instr.makeInterface;clear hty;cases d<;>first|exact absurd rfl (hni _)|simp[hu]
  · simp only[RepC];have e:dX v.isAgg (a.eval x).cells.toList=a.eval x:=lB _ _ r2.symm;exact⟨_,r1,by rw[e]⟩
 · exact hl.elim
theorem aI4 (h:RepA' c M fr ob a w ρ){s t:TypeId}{x:Operand}{K:HV→Prop}(hl:hassert P t (ev fr x) K):
  ∃u y,K u∧(Instr.typeAssert (a.eval x) s t true).run P w= .ok y w∧RepV w ρ (Owned ρ c.X) u y∧u.men M:=by
 unfold hassert at hl;rw[aC]at hl;obtain⟨ti,ht,hl⟩:=hl;split at hl
 ·
  rename_i t' v hx;obtain⟨hp,hK⟩:=hl;obtain⟨i,d,zv,hty⟩:=bB ht;have hni:=vM hty hp;have hr:=h.ev x (by rw[hx];simp);rw[hx]at hr;have hs:=hr.single rfl;simp only[RepC,List.cons.injEq,and_true]at hs;obtain⟨xs,r1,he⟩:=hs;have hz:(zeroValue t).run P w= .ok zv w:=by simp[zeroValue,typeInfo,hty.info,hty.zero]
  have run:(Instr.typeAssert (a.eval x) s t true).run P w=(if t'=t then Result.ok (.tuple #[dX v.isAgg xs,.bool true]) w else .ok (.tuple #[zv,.bool false]) w):=by
   have hu:=run_underlying (w:=w) hty.under;unfold Instr.typeAssert;rw[he];clear hty;cases d<;>first|exact absurd rfl (hni _)|(by_cases e:t'=t<;>simp[hu,e,hz])
  by_cases e:t'=t
  · rw[if_pos e]at hK run;refine⟨_,_,hK,run,dC ?_ rfl rfl,by simp[HV.men,HV.menL]⟩;simp only[RepH];refine⟨[dX v.isAgg xs,.bool true],rfl,?_⟩;rw[bK];refine⟨_,_,rfl,gB (by simpa only[RepH]using r1) rfl rfl,?_⟩;rw[bK];exact⟨_,_,rfl,iN _ _ _ _,by simp[RepHV]⟩
  · rw[if_neg e]at hK run;refine⟨_,_,hK,run,dC ?_ rfl rfl,by simp[HV.men,HV.menL]⟩;simp only[RepH];refine⟨[zv,.bool false],rfl,?_⟩;rw[bK];refine⟨_,_,rfl,⟨by simp only[RepH];exact hty.rep w _,by rw[HV.isAgg,hty.agg]⟩,?_⟩;rw[bK];exact⟨_,_,rfl,iN _ _ _ _,by simp[RepHV]⟩
 · exact hl.elim
theorem wS (h:RepA' c M fr ob a w ρ){nid:Nat}(hn: ¬M nid)(hM: ∀i,M i→M' i)(hM':M' nid){t:TypeId}{len cap:Operand}{K:HV→Ob→Prop}
  (hl:hmakeSlice P t (ev fr len) (ev fr cap) nid ob K) (d:Option Nat) (hd: ∀k,d=some k→k<c.n):
  ∃v ob' y w' ρ',K v ob'∧(Instr.makeSlice t (a.eval len) (a.eval cap)).run P w= .ok y w'∧RepA' c M' (updo fr d v) ob' (a.put d y) w' ρ':=by
 unfold hmakeSlice at hl;rw[aC]at hl;obtain⟨ti,ht,hl⟩:=hl;obtain⟨i0,d0,zv0,hty⟩:=bB ht;split at hl
 ·
  rename_i e k1 l k2 m hde hlen hcap;rw[aC]at hl;obtain⟨te,hte,hl⟩:=hl;obtain⟨ie,de,zve,htye⟩:=bB hte;have hdd:=hty.d_;by_cases hl0:l=0
  rotate_left
  ·
   rw[if_neg hl0]at hl;obtain⟨⟨h0,rfl,hs1,h1,h2⟩,hK⟩:=hl;obtain⟨n,rfl⟩: ∃n:Nat,l=n:=⟨l.toNat,by omega⟩;rw[hde]at hdd;have hu:P.underlying t=some (.slice e):=by
    rw[hty.under];congr 1;cases d0<;>simp[tyd]at hdd;rw[hdd]
   have hzs:=htye.zsize;rw[hs1]at hzs;obtain⟨x,hx⟩:=Array.size_eq_one_iff.1 hzs;have hrun:=run_make (P:=P) w t e ie zve hu htye.info htye.zero k1 k2 (n:Int) (n:Int) h0 (Int.le_refl _) (by rw[htye.bytes,Int.mul_comm];omega) (by omega);simp only[Int.toNat_natCast]at hrun hK;rw[htye.size,hs1,Nat.mul_one,hx]at hrun;refine⟨_,_,_,_,_,hK,by rw[dR h hlen,dR h hcap];exact hrun,h.newObj (w1:=w) (L:= .hdr (.slice (some ⟨w.heap.size,0,none⟩) n n)) hn hM hM' rfl rfl rfl rfl (fun b hb=>by simpa[Loc.has,Value.ownBlock]using hb.symm) (fun hst=>?_) trivial (.inr ?_) (by simpa[HV.men]using hM') hd⟩
   ·
    have hrl: ∀(w:World) (O:Nat→Prop) (n:Nat),RepL w O (List.replicate n te.z) (List.replicate n x):=by
     intro w O n;induction n with
     |zero=>simp[RepL]
     |succ n ih=>
      simp only[List.replicate_succ,RepL];exact⟨[x],_,rfl,by have:=htye.rep w O;rw[hx]at this;exact this,ih⟩
    have hzc:te.z.cells=1:=by rw[←bG (htye.rep w (fun _=>False)),hx];rfl
    refine⟨_,List.replicate n x,aT _ _ _,hrl _ _ n,fun v hv=>by rw[(List.mem_replicate.1 hv).2,hzc,hs1],by simp[hs1],.inr ⟨w.heap.size,n,madeCells #[x] n,by rw[List.length_replicate],Nat.zero_le _,heap_alloc_new w _,by rw[List.length_replicate];exact Nat.le_refl _,by unfold maxLen;omega,by rw[size_madeCells,hs1,Nat.mul_one],?_⟩⟩;rw[toList_madeCells_one,hs1,List.length_replicate,Nat.mul_one,List.take_of_length_le (by simp)]
   · refine dC ?_ rfl rfl;simp only[RepH];refine⟨_,rfl,by simp[Value.oneCell'],fun hd' hρ=>?_⟩;rw[aT]at hρ;cases hρ;exact⟨Nat.le_refl _,fun _=>rfl⟩
  rw[if_pos hl0]at hl;obtain⟨⟨rfl,h0,h1,h2⟩,hK⟩:=hl;obtain⟨n,rfl⟩: ∃n:Nat,m=n:=⟨m.toNat,by omega⟩;rw[hde]at hdd;have hu:P.underlying t=some (.slice e):=by
   rw[hty.under];congr 1;cases d0<;>simp[tyd]at hdd;rw[hdd]
  have hpos:=htye.pos;have hsz:(sizeOf e).run P w= .ok te.size w:=by rw[bZ htye.info,htye.size]
  have hzero:(zeroValue e).run P w= .ok zve w:=by simp[zeroValue,typeInfo,htye.info,htye.zero]
  have hwr:IntKind.i64.wrap (n:Int)=n:=by simp[IntKind.wrap,IntKind.bits,IntKind.signed];omega
  have hb1: ¬(281474976710656<(ie.bytes:Int)*n):=by rw[htye.bytes,Int.mul_comm];omega
  have hb2: ¬(roomBytes<n*ie.bytes):=by
   rw[htye.bytes];have:((n*te.bytes:Nat):Int)≤140737488355328:=by push_cast;exact h1
   have:n*te.bytes≤140737488355328:=by omega
   unfold roomBytes;omega
  have hw0:IntKind.i64.wrap 0=0:=rfl;have hneg: ¬((n:Int)<0):=by omega
  obtain⟨cells,hrun,hcl⟩: ∃cells:Array Value,(Instr.makeSlice t (a.eval len) (a.eval cap)).run P w= .ok (.slice (some ⟨w.heap.size,0,none⟩) 0 n) (w.alloc (.cells cells e))∧cells.size=n*te.size:=by
   by_cases hz:n*te.size=0
   · refine⟨#[],?_,by simp[hz]⟩;rw[dR h hlen,dR h hcap];simp[Instr.makeSlice,run_underlying hu,asInt,asIntOf,typeInfo,htye.info,hwr,hw0,hneg,hb1,hb2,askRoom,hsz,hz,newRow];congr 2;exact Array.ext (by simp) (by simp)
   · refine⟨(Array.range (n*te.size)).map (zve.cells[· %zve.cells.size]!),?_,by simp⟩;rw[dR h hlen,dR h hcap];simp[Instr.makeSlice,run_underlying hu,asInt,asIntOf,typeInfo,htye.info,hwr,hw0,hneg,hb1,hb2,askRoom,hsz,hz,hzero,newRow]
  refine⟨_,_,_,_,_,hK,hrun,h.newObj (w1:=w) (L:= .hdr (.slice (some ⟨w.heap.size,0,none⟩) 0 n)) hn hM hM' rfl rfl rfl rfl (fun b hb=>by simpa[Loc.has,Value.ownBlock]using hb.symm) (fun hst=>?_) trivial (.inr ?_) (by simpa[HV.men]using hM') hd⟩
  · refine⟨_,[],aT _ _ _,by simp[RepL],by simp,by simp,.inr ⟨w.heap.size,n,cells,rfl,Nat.zero_le _,heap_alloc_new w _,Nat.zero_le _,by unfold maxLen;omega,hcl,by simp⟩⟩
  · refine dC ?_ rfl rfl;simp only[RepH];refine⟨_,rfl,by simp[Value.oneCell'],fun hd' hρ=>?_⟩;rw[aT]at hρ;cases hρ;exact⟨Nat.le_refl _,fun _=>rfl⟩
 grind
theorem aC1 (h:RepA' c M fr ob a w ρ){nid:Nat}(hn: ¬M nid)(hM: ∀i,M i→M' i)(hM':M' nid){o:Oper}{K:HV→Ob→Prop}(hl:hop P nid o.op (ev fr) ob K)(hd: ∀k,o.dst=some k→k<c.n):
  Gives P o a w fun y w'=> ∃v ob' ρ',K v ob'∧RepA' c M' (updo fr o.dst v) ob' (a.put o.dst y) w' ρ':=by
 have valq: ∀{v:HV} {y:Value},K v ob→(execOp a.eval o).run P w= .ok (.value y) w→RepV w ρ (Owned ρ c.X) v y→v.men M→
   Gives P o a w fun y w'=> ∃v ob' ρ',K v ob'∧RepA' c M' (updo fr o.dst v) ob' (a.put o.dst y) w' ρ':=fun hK hr hv hm=>
  .val hr ⟨_,_,_,hK,(h.value (.inr hv) hm hd).weaken hM⟩
 unfold hop at hl;split at hl
 · rename_i x ho;exact valq hl.2 (by simp[execOp,ho]) (h.ev x hl.1) (h.evm x)
 · rename_i x ho;exact valq hl.2 (by simp[execOp,ho]) (h.ev x hl.1) (h.evm x)
 ·
  rename_i cc x y ho;unfold hpick at hl;split at hl
  ·
   rename_i t hc;have hb:=oX h hc;cases t with
   |true=>exact valq hl.2 (by simp[execOp,ho,hb,asBool]) (h.ev x (by simpa using hl.1)) (by simpa using h.evm x)
   |false=>exact valq hl.2 (by simp[execOp,ho,hb,asBool]) (h.ev y (by simpa using hl.1)) (by simpa using h.evm y)
  · exact hl.elim
 · rename_i t ho;rw[aC]at hl;obtain⟨ti,ht,hK⟩:=hl;obtain⟨y,w',ρ',hr,hA⟩:=aM5 (P:=P) h hn hM hM' ht o.dst hd;exact .val (by simp[execOp,ho,hr]) ⟨_,_,_,hK,hA⟩
 · rename_i t x ho;obtain⟨y,w',ρ',hr,hA⟩:=bI2 (P:=P) h hn hM hM' (t:=t) hl.1 o.dst hd;exact .val (by simp[execOp,ho,hr]) ⟨_,_,_,hl.2,hA⟩
 · rename_i t parts ho;rw[aC]at hl;obtain⟨ti,ht,hl⟩:=hl;obtain⟨u,y,hK,hr,hv,hm⟩:=aN0 h ht hl;exact valq hK (by simp[execOp,ho,hr]) hv hm
 ·
  rename_i t len parts ho;rw[aC]at hl;obtain⟨ti,ht,hl⟩:=hl;split at hl
  · rename_i el hde;rw[aC]at hl;obtain⟨te,hte,hl⟩:=hl;rw[aC]at hl;obtain⟨l,hcl,⟨h1,h2⟩,hK⟩:=hl;obtain⟨y,w',ρ',hr,hA⟩:=uA h hn hM hM' ht hde hte hcl h1 h2 o.dst hd;exact .val (by simp[execOp,ho,hr]) ⟨_,_,_,hK,hA⟩
  · exact hl.elim
 · rename_i t x ho;rw[aC]at hl;obtain⟨ti,ht,hl⟩:=hl;obtain⟨u,y,hK,hr,hv,hm⟩:=xG h ht hl;exact valq hK (by simp[execOp,ho,hr]) hv hm
 · rename_i t x y ho;rw[aC]at hl;obtain⟨ti,ht,hl⟩:=hl;obtain⟨ob',w',hK,hr,hA⟩:=aM4 h ht hl;exact⟨undef,w',⟨_,_,_,hK,(hA o.dst undef hd).weaken hM⟩,.inr ⟨by simp[execOp,ho,hr],rfl⟩⟩
 ·
  rename_i x ho;obtain⟨hlv,hK⟩:=hl;have hj:ev fr x≠ .junk:=by intro e;rw[e]at hlv;exact hlv
  refine valq hK ?_ (h.ev x hj) (h.evm x);unfold live at hlv;split at hlv
  · rename_i v hx;obtain⟨ad,xs,he,_⟩:=bC4 h hx;simp[execOp,ho,he]
  · rename_i f hx;have hr:=h.ev x hj;rw[hx]at hr;have:=hr.single rfl;simp only[RepC,List.cons.injEq,and_true]at this;simp[execOp,ho,this]
  · rename_i f caps hx;have hr:=dI (h.ev x hj) (by rw[hx];rfl);rw[hx]at hr;simp only[RepH,List.cons.injEq,and_true]at hr;obtain⟨⟨xs,he,_⟩,_⟩:=hr;simp[execOp,ho,he]
  · rename_i id off hx;obtain⟨b,_,he⟩:=kF h hx hlv;simp[execOp,ho,he]
  · rename_i id n i sz off hx;obtain⟨g,cap,_,he⟩:=oY h hx hlv;simp[execOp,ho,he]
  · exact hlv.elim
 ·
  rename_i op t x y yt ho;unfold jB at hl;have run: ∀z,(eqGuard op t x y (a.eval x) (a.eval y)).run P w= .ok () w→(binOp op t (a.eval x) (a.eval y)).run P w= .ok z w→(execOp a.eval o).run P w= .ok (.value z) w:=fun z h1 h2=>by simp[execOp,ho,h1,h2]
  split at hl
  · rename_i k i1 k' i2 hx hy;obtain⟨u,hK,hs,hr⟩:=zV (P:=P) (t:=t) hl;have ex:=dR h hx;have ey:=dR h hy;exact valq hK (run _ (by rw[ex];exact gC (by simp) (by simp[Value.isAgg'])) (by rw[ex,ey];exact hr w)) (CV.val_rep hs) (by simp[HV.men])
  · rename_i s1 s2 hx hy;obtain⟨u,hK,hs,hr⟩:=zW (P:=P) (t:=t) hl;have ex:=lM h hx;have ey:=lM h hy;exact valq hK (run _ (by rw[ex];exact gC (by simp) (by simp[Value.isAgg'])) (by rw[ex,ey];exact hr w)) (CV.val_rep hs) (by simp[HV.men])
  ·
   rename_i b1 b2 hx hy;rw[aC]at hl;obtain⟨ti,ht,hd1,hl⟩:=hl;obtain⟨i,d,zv,hty⟩:=bB ht;have hu:P.underlying t=some .bool:=by
    have:=hty.d_;rw[hd1]at this;rw[hty.under];congr 1;cases d<;>simp[tyd]at this;rfl
   have ex:=oX h hx;have ey:=oX h hy;have hq:=run_equal_bool (P:=P) w t b1 b2 hu;split at hl
   · exact valq hl (run _ (by rw[ex];exact gC (by simp) (by simp[Value.isAgg'])) (by rw[ex,ey];simp[binOp,hq])) (iN _ _ _ _) (by simp[HV.men])
   · exact valq hl (run _ (by rw[ex];exact gC (by simp) (by simp[Value.isAgg'])) (by rw[ex,ey];simp[binOp,hq])) (iN _ _ _ _) (by simp[HV.men])
   · exact hl.elim
  ·
   rename_i l1 l2 hx hy;obtain⟨⟨h1,h2,h3⟩,hl⟩:=hl;simp only[aB7,Bool.and_eq_true,Bool.not_eq_true']at h1;have hrx:=h.ev x (by rw[hx];simp);have hry:=h.ev y (by rw[hy];simp);rw[hx]at hrx;rw[hy]at hry;obtain⟨rx1,rx2⟩:=hrx;obtain⟨ry1,ry2⟩:=hry;simp only[RepH]at rx1 ry1;have hq:=(aH8 (P:=P) 9992 8 t h1.1 w _ _ _ _ _ _ h2 h3 rx1 ry1).1;have mx:dX (CV.agg l1).isAgg (a.eval x).cells.toList=a.eval x:=lB _ _ rx2.symm;have my:dX (CV.agg l2).isAgg (a.eval y).cells.toList=a.eval y:=lB _ _ ry2.symm;rw[mx,my]at hq;have hax: ∃cs,a.eval x= .agg cs:=by
    cases hv:a.eval x<;>rw[hv]at rx2<;>simp[HV.isAgg,CV.isAgg,Value.isAgg']at rx2;exact⟨_,rfl⟩
   obtain⟨cs,hcs⟩:=hax;have hay: ∃cs,a.eval y= .agg cs:=by
    cases hv:a.eval y<;>rw[hv]at ry2<;>simp[HV.isAgg,CV.isAgg,Value.isAgg']at ry2;exact⟨_,rfl⟩
   obtain⟨ds,hds⟩:=hay;have hq':(Op.equal t (.agg cs) (.agg ds)).run P w= .ok ((CV.agg l1).eqv (.agg l2)) w:=by rw[←hcs,←hds];exact hq
   have hg:=gC (P:=P) (w:=w) (op:=op) (t:=t) (x:=x) (y:=y) (u:=a.eval x) (v:=a.eval y) (by rw[hcs];simp) (fun _=>h1.2);split at hl
   · exact valq hl (run _ hg (by rw[hcs,hds];simp[binOp,hq'])) (iN _ _ _ _) (by simp[HV.men])
   · exact valq hl (run _ hg (by rw[hcs,hds];simp[binOp,hq'])) (iN _ _ _ _) (by simp[HV.men])
   · exact hl.elim
  · exact hl.elim
 ·
  rename_i op t x ho;unfold hun at hl;split at hl
  · rename_i b hx;have ex:=oX h hx;exact valq hl (by simp[execOp,ho,ex,Op.unary]) (iN _ _ _ _) (by simp[HV.men])
  · rename_i k n hx;have ex:=dR h hx;exact valq hl (by simp[execOp,ho,ex,Op.unary,Op.intArith]) (eF _ _ _ _ _) (by simp[HV.men])
  · rename_i k n hx;have ex:=dR h hx;exact valq hl (by simp[execOp,ho,ex,Op.unary,Op.intBits]) (eF _ _ _ _ _) (by simp[HV.men])
  · exact hl.1.elim
  · exact hl.elim
 ·
  rename_i sr ds x ho;unfold hconv at hl;rw[aC]at hl;obtain⟨ts,hts,hl⟩:=hl;rw[aC]at hl;obtain⟨td,htd,hl⟩:=hl;obtain⟨is,dd,zs,hs⟩:=bB hts;obtain⟨id',dd',zd,hdt⟩:=bB htd;split at hl
  ·
   rename_i k k' n hd1 hx;have ex:=dR h hx;have hu:P.underlying ds=some (.int k):=by
    have:=hdt.d_;rw[hd1]at this;rw[hdt.under];congr 1;cases dd'<;>simp[tyd]at this;rw[this]
   refine valq hl ?_ (eF _ _ _ _ _) (by simp[HV.men]);simp[execOp,ho,ex,convert,run_underlying hs.under,run_underlying hu,Conv.intToInt]
  ·
   rename_i s hd1 hx;have ex:=lM h hx;have hu:P.underlying ds=some .string:=by
    have:=hdt.d_;rw[hd1]at this;rw[hdt.under];congr 1;cases dd'<;>simp[tyd]at this;rfl
   refine valq hl ?_ (rR _ _ _ _) (by simp[HV.men]);simp[execOp,ho,ex,convert,run_underlying hs.under,run_underlying hu]
  ·
   rename_i e l hd1 hd2 hx;rw[aC]at hl;obtain⟨te,hte,h8,hl⟩:=hl;rw[aC]at hl;obtain⟨bs,hbs,hK⟩:=hl;obtain⟨ie,de,zve,htye⟩:=bB hte;have u1:P.underlying sr=some (.slice e):=by
    have:=hs.d_;rw[hd1]at this;rw[hs.under];congr 1;cases dd<;>simp[tyd]at this;rw[this]
   have u2:P.underlying ds=some .string:=by
    have:=hdt.d_;rw[hd2]at this;rw[hdt.under];congr 1;cases dd'<;>simp[tyd]at this;rfl
   have u3:P.underlying e=some (.int .u8):=by
    have:=htye.d_;rw[h8]at this;rw[htye.under];congr 1;cases de<;>simp[tyd]at this;rw[this]
   have hr:=aW2 h u1 u3 u2 hx hbs;exact valq hK (by simp[execOp,ho,hr]) (rR _ _ _ _) (by simp[HV.men])
  · exact hl.elim
 ·
  rename_i f first caps ho
  obtain⟨rfl,hl⟩:=hl;unfold hclo at hl;split at hl
  ·
   rename_i hc;have hc0:caps= #[]:=by
    have:caps.toList=[]:=by simpa using hc
    exact Array.toList_eq_nil_iff.1 this
   subst hc0;exact valq (y:= .func (.func f) #[] #[]) hl (by simp[execOp,ho,Instr.makeFunc]) (bW (by simp[RepC]) rfl rfl) (by simp[HV.men])
  ·
   obtain⟨hj,hK⟩:=hl;have hr:=aN4 h caps.toList hj;refine valq (y:= .func (.func f) #[] (caps.map a.eval)) hK (by simp[execOp,ho,Instr.makeFunc]) (dC ?_ rfl rfl) (by simp only[HV.men];exact bC9 h _);simp only[RepH];have e:caps.map a.eval=(caps.toList.map a.eval).toArray:=by rw[←Array.toList_map,Array.toArray_toList]
   exact⟨caps.toList.map a.eval,by rw[e],hr⟩
 · rename_i t x lo hi ho;obtain⟨u,y,hK,hr,hv,hm⟩:=aI2 h hl;exact valq hK (by simp[execOp,ho,hr]) hv hm
 · rename_i t x lo hi mx ho;obtain⟨u,y,hK,hr,hv,hm⟩:=aI0 h hl;exact valq hK (by simp[execOp,ho,hr]) hv hm
 · rename_i t ho;obtain⟨v,ob',y,w',ρ',hK,hr,hA⟩:=zX h hn hM hM' hl o.dst hd;exact .val (by simp[execOp,ho,hr]) ⟨_,_,_,hK,hA⟩
 · rename_i t m k ho;obtain⟨u,y,hK,hr,hv,hm⟩:=aI3 h hl;exact valq hK (by simp[execOp,ho,hr]) hv hm
 · rename_i t m k v ho;obtain⟨ob',w',hK,hr,hA⟩:=wR h hl;exact⟨undef,w',⟨_,_,_,hK,(hA o.dst undef hd).weaken hM⟩,.inr ⟨by simp[execOp,ho,hr],rfl⟩⟩
 · rename_i t x f ho;obtain⟨u,y,hK,hr,hv,hm⟩:=wP h hl;exact valq hK (by simp[execOp,ho,hr]) hv hm
 · rename_i t x f ho;obtain⟨⟨ha,hs⟩,hl⟩:=hl;obtain⟨fs,fd,tf,i,d,zv,hu,hf,hty,hK⟩:=tY hl;rw[aC]at hK;obtain⟨u,hg,hK⟩:=hK;have hr:=h.ev x (by intro e;rw[e]at hs;simp[HV.sto]at hs);obtain⟨c1,c2,c3,e0,e1,e2,e3,e4,e5,e6⟩:=HV.getAt_spec hg hs hr.1;have hax:a.eval x= .agg (c1++c2++c3).toArray:=bS0 (by rw[←hr.2,ha]) e0;have hp:=jZ (w:=w) hty c1 c2 c3 e2;rw[e1]at hp;refine valq hK ?_ (gB e3 e4 e5) (e6 M (h.evm x));simp[execOp,ho,hax,Instr.field,run_underlying hu,hf,asAgg];simpa using congrArg (fun r=>Result.andThen r fun v w'=>Result.ok (Next.value v) w') hp
 · rename_i t x i ho;obtain⟨u,y,hK,hr,hv,hm⟩:=wQ h hl;exact valq hK (by simp[execOp,ho,hr]) hv hm
 ·
  rename_i t x ix ho;unfold hindex at hl;rw[aC]at hl;obtain⟨ti,ht,hl⟩:=hl;obtain⟨i0,d0,zv0,hty⟩:=bB ht;have hdd:=hty.d_;split at hl
  ·
   rename_i s k i hd1 hx hi;obtain⟨⟨h0,h1⟩,hK⟩:=hl;rw[hd1]at hdd;have hu:P.underlying t=some .string:=by rw[hty.under];congr 1;cases d0<;>simp[tyd]at hdd;rfl
   have hlt:i.toNat<s.length:=by omega
   have hget:(⟨s.toArray⟩:ByteArray)[i.toNat]? =some (s.getD i.toNat 0):=by
    have hsz:(⟨s.toArray⟩:ByteArray).size=s.length:=by simp[ByteArray.size]
    rw[getElem?_pos _ _ (by rw[hsz];exact hlt)];simp[ByteArray.getElem_eq_getElem_data,hlt]
   refine valq hK ?_ (eF _ _ _ _ _) (by simp[HV.men]);simp[execOp,ho,lM h hx,dR h hi,Instr.index,asIntOf,run_underlying hu,h0,hget]
  ·
   rename_i m e k i hd1 hi;rw[hd1]at hdd;have hu:P.underlying t=some (.array m e):=by rw[hty.under];congr 1;cases d0<;>simp[tyd]at hdd;rw[hdd.1,hdd.2]
   rw[aC]at hl;obtain⟨te,hte,⟨ha,hs,h0,h1⟩,hl⟩:=hl;obtain⟨ie,de,zve,htye⟩:=bB hte;rw[aC]at hl;obtain⟨u,hg,hK⟩:=hl;have hr:=h.ev x (by intro e;rw[e]at hs;simp[HV.sto]at hs);obtain⟨c1,c2,c3,e0,e1,e2,e3,e4,e5,e6⟩:=HV.getAt_spec hg hs hr.1;have hax:a.eval x= .agg (c1++c2++c3).toArray:=bS0 (by rw[←hr.2,ha]) e0;have hp:=jZ (w:=w) htye c1 c2 c3 e2;rw[e1]at hp;refine valq hK ?_ (gB e3 e4 e5) (e6 M (h.evm x));have hsz:(sizeOf e).run P w= .ok te.size w:=by rw[bZ htye.info,htye.size]
   simp only[execOp,ho,hax,Instr.index,asIntOf,dR h hi,Sem.run_bind,Sem.run_pure,Result.andThen_ok,run_underlying hu,h0,h1,and_self,if_true,hsz,hp]
  · exact hl.elim
 ·
  rename_i x i ho;unfold hext at hl;split at hl
  · rename_i l hx;rw[aC]at hl;obtain⟨v,hv,hj,hK⟩:=hl;have hr:=dI (h.ev x (by rw[hx];simp)) (by rw[hx];rfl);have hm:=h.evm x;rw[hx]at hr hm;simp only[RepH,List.cons.injEq,and_true,HV.men]at hr hm;obtain⟨⟨xs,he,hxs⟩,_⟩:=hr;obtain⟨y,hy,hyv⟩:=aC0 hxs hv;exact valq hK (by simp[execOp,ho,he,Instr.extract,hy]) hyv (aN5 hm hv)
  · exact hl.elim
 ·
  rename_i cl ho;split at hl
  ·
   rename_i x t hcal hargs hat;have hargs':cl.args= #[x]:=by rw[←Array.toArray_toList (xs:=cl.args),hargs]
   have hat':cl.argTypes= #[t]:=by rw[←Array.toArray_toList (xs:=cl.argTypes),hat]
   rw[aC]at hl;obtain⟨ti,ht,hl⟩:=hl;obtain⟨i0,d0,zv0,hty⟩:=bB ht;have hdd:=hty.d_;have run: ∀z,(Builtin.len_ #[t] o.type #[a.eval x]).run P w= .ok z w→(execOp a.eval o).run P w= .ok (.value z) w:=fun z hz=>by simp[execOp,ho,resolve,hcal,hargs',hat',invoke,builtin,hz]
   split at hl
   ·
    rename_i hd1;rw[hd1]at hdd;have hu:P.underlying t=some .string:=by rw[hty.under];congr 1;cases d0<;>simp[tyd]at hdd;rfl
    rw[aC]at hl;obtain⟨n,hn',hK⟩:=hl;split at hn'
    ·
     rename_i s hx;cases hn';refine valq hK (run (.int .i64 s.length) ?_) (eF _ _ _ _ _) (by simp[HV.men]);have hsz:(⟨s.toArray⟩:ByteArray).size=s.length:=by simp[ByteArray.size]
     simp only[Builtin.len_,List.getElem?_toArray,List.getElem?_cons_zero,Sem.run_bind,run_underlying hu,Result.andThen_ok,lM h hx,Sem.run_pure,goInt,hsz]
    · cases hn'
   ·
    rename_i e hd1;rw[hd1]at hdd;have hu:P.underlying t=some (.slice e):=by rw[hty.under];congr 1;cases d0<;>simp[tyd]at hdd;rw[hdd]
    rw[aC]at hl;obtain⟨l,hl1,hK⟩:=hl;obtain⟨ad,m,cap,xs,he,hm,_⟩:=jE h hl1;refine valq hK (run (.int .i64 l.length) ?_) (eF _ _ _ _ _) (by simp[HV.men]);simp[Builtin.len_,run_underlying hu,he,goInt,hm]
   ·
    rename_i n e hd1;rw[hd1]at hdd;have hu:P.underlying t=some (.array n e):=by rw[hty.under];congr 1;cases d0<;>simp[tyd]at hdd;rw[hdd.1,hdd.2]
    refine valq hl (run (.int .i64 n) ?_) (eF _ _ _ _ _) (by simp[HV.men]);simp[Builtin.len_,run_underlying hu,goInt]
   · exact hl.elim
  ·
   rename_i s x t t' hcal hargs hat;have hargs':cl.args= #[s,x]:=by rw[←Array.toArray_toList (xs:=cl.args),hargs]
   have hat':cl.argTypes= #[t,t']:=by rw[←Array.toArray_toList (xs:=cl.argTypes),hat]
   by_cases e:t'=t
   · subst e;rw[if_pos rfl]at hl;obtain⟨v,ob',y,w',ρ',hK,hr,hA⟩:=zY (P:=P) (ty:=o.type) h hn hM hM' hl o.dst hd;exact .val (by simp[execOp,ho,resolve,hcal,hargs',hat',invoke,builtin,hr]) ⟨_,_,_,hK,hA⟩
   · rw[if_neg e]at hl;obtain⟨v,ob',y,w',ρ',hK,hr,hA⟩:=zZ (P:=P) (ty:=o.type) h hM hl o.dst hd;exact .val (by simp[execOp,ho,resolve,hcal,hargs',hat',invoke,builtin,hr]) ⟨_,_,_,hK,hA⟩
  ·
   rename_i x y t1 t2 hcal hargs hat;have hargs':cl.args= #[x,y]:=by rw[←Array.toArray_toList (xs:=cl.args),hargs]
   unfold hmax at hl;split at hl
   · rename_i k i1 k' i2 hx hy;obtain⟨rfl,hK⟩:=hl;refine valq hK ?_ (eF _ _ _ _ _) (by simp[HV.men]);simp[execOp,ho,resolve,hcal,hargs',invoke,builtin,Builtin.max_,Builtin.max2,dR h hx,dR h hy]
   · exact hl.elim
  ·
   rename_i x y t1 t2 hcal hargs hat;have hargs':cl.args= #[x,y]:=by rw[←Array.toArray_toList (xs:=cl.args),hargs]
   unfold hmax at hl;split at hl
   · rename_i k i1 k' i2 hx hy;obtain⟨rfl,hK⟩:=hl;refine valq hK ?_ (eF _ _ _ _ _) (by simp[HV.men]);simp[execOp,ho,resolve,hcal,hargs',invoke,builtin,Builtin.min_,Builtin.min2,dR h hx,dR h hy]
   · exact hl.elim
  ·
   rename_i x t hcal hargs hat;have hargs':cl.args= #[x]:=by rw[←Array.toArray_toList (xs:=cl.args),hargs]
   have hat':cl.argTypes= #[t]:=by rw[←Array.toArray_toList (xs:=cl.argTypes),hat]
   obtain⟨ob',w',hK,hr,hA⟩:=aN2 (ty:=o.type) h hl;exact .val (y:= .tuple #[]) (by simp[execOp,ho,resolve,hcal,hargs',hat',invoke,builtin,hr]) ⟨_,_,_,hK,(hA o.dst _ hd).weaken hM⟩
  ·
   rename_i x y t t' hcal hargs hat;have hargs':cl.args= #[x,y]:=by rw[←Array.toArray_toList (xs:=cl.args),hargs]
   have hat':cl.argTypes= #[t,t']:=by rw[←Array.toArray_toList (xs:=cl.argTypes),hat]
   obtain⟨v,ob',z,w',hK,hr,hA⟩:=aW1 (t':=t') (ty:=o.type) h hl;exact .val (y:=z) (by simp[execOp,ho,resolve,hcal,hargs',hat',invoke,builtin,hr]) ⟨_,_,_,hK,(hA o.dst hd).weaken hM⟩
  · exact hl.elim
 · rename_i t x ho;obtain⟨u,y,hK,hr,hv,hm⟩:=aA0 h hl;exact valq hK (by simp[execOp,ho,hr]) hv hm
 · rename_i x s t ho;obtain⟨u,y,hK,hr,hv,hm⟩:=aI4 (s:=s) h hl;exact valq hK (by simp[execOp,ho,hr]) hv hm
 · rename_i t len cap ho;obtain⟨v,ob',y,w',ρ',hK,hr,hA⟩:=wS h hn hM hM' hl o.dst hd;exact .val (by simp[execOp,ho,hr]) ⟨_,_,_,hK,hA⟩
 · exact hl.elim
end
end Go.Hl
