/- HL, part X: parts of own rows, clear; maps whose elements are rows or closed values. By an AI agent. -/
import Derived.Test.YthedbjfipmkpiaaGreatDoorHlI
import Derived.Lib.Strings
import Derived.Maps.Own
set_option linter.unusedSimpArgs false
set_option linter.unusedVariables false
set_option linter.defProp false
namespace Go.Hl
open Go
def hint (op:BinOp)(k:IntKind)(a b:Int)(K:CV→Prop):Prop:=
 match op with
 | .add=>K (.int k (k.wrap (a+b)))
 | .sub=>K (.int k (k.wrap (a-b)))
 | .mul=>K (.int k (k.wrap (a*b)))
 | .quo=>b≠0∧K (.int k (k.wrap (a.tdiv b)))
 | .rem=>b≠0∧K (.int k (a.tmod b))
 | .and=>K (.int k (k.wrap (BitVec.ofInt k.bits a&&&BitVec.ofInt k.bits b).toNat))
 | .or=>K (.int k (k.wrap (BitVec.ofInt k.bits a|||BitVec.ofInt k.bits b).toNat))
 | .xor=>K (.int k (k.wrap (BitVec.ofInt k.bits a^^^BitVec.ofInt k.bits b).toNat))
 | .andNot=>K (.int k (k.wrap (BitVec.ofInt k.bits a&&& ~~~BitVec.ofInt k.bits b).toNat))
 | .eql=>K (.bool (a==b))
 | .neq=>K (.bool (a !=b))
 | .lss=>K (.bool (decide (a<b)))
 | .leq=>K (.bool (decide (a≤b)))
 | .gtr=>K (.bool (decide (b<a)))
 | .geq=>K (.bool (decide (b≤a)))
 |_=>False
def hshift (op:BinOp)(k:IntKind)(a b:Int)(K:CV→Prop):Prop:=
 match op with
 | .shl=>0≤b∧K (.int k (k.wrap (a*2^(min b.toNat k.bits))))
 | .shr=>0≤b∧K (.int k (a.fdiv (2^(min b.toNat k.bits))))
 |_=>False
def slt (a b:List UInt8):Bool:=Op.bytesLess a b
def hstr (op:BinOp)(a b:List UInt8)(K:CV→Prop):Prop:=
 match op with
 | .add=>a.length+b.length≤9223372036854775807∧K (.str (a++b))
 | .eql=>K (.bool (a==b))
 | .neq=>K (.bool (!(a==b)))
 | .lss=>K (.bool (slt a b))
 | .leq=>K (.bool (slt a b||a==b))
 | .gtr=>K (.bool (!(slt a b||a==b)))
 | .geq=>K (.bool (!(slt a b)))
 |_=>False
def isShift :BinOp→Bool
 | .shl| .shr=>true
 |_=>false
def jB (P:Program)(op:BinOp)(t:TypeId)(x y:HV)(K:CV→Prop):Prop:=
 match x,y with
 | .c (.int k a),.c (.int k' b)=>if isShift op then hshift op k a b K else k=k'∧hint op k a b K
 | .c (.str a),.c (.str b)=>hstr op a b K
 | .c (.bool a),.c (.bool b)=>hlift (aP P t) fun ti=>ti.d= .bool∧match op with
  | .eql=>K (.bool (a==b))
  | .neq=>K (.bool (!(a==b)))
  |_=>False
 | .c (.agg a),.c (.agg b)=>(aB7 P t=true∧CV.ofTy P 8 t (.agg a)=true∧CV.ofTy P 8 t (.agg b)=true)∧match op with
  | .eql=>K (.bool (CV.eqv (.agg a) (.agg b)))
  | .neq=>K (.bool (!(CV.eqv (.agg a) (.agg b))))
  |_=>False
 |_,_=>False
def CV.val :CV→Value
 | .bool b=> .bool b
 | .int k n=> .int k n
 | .str s=> .string ⟨s.toArray⟩
 |_=>undef
def CV.sc :CV→Bool
 | .bool _| .int _ _| .str _=>true
 |_=>false
theorem CV.val_rep {w:World}{ρ:Env}{O:Nat→Prop}{u:CV}(h:u.sc=true):RepV w ρ O (.c u) u.val:=by
 cases u<;>simp[CV.sc]at h
 · exact iN _ _ _ _
 · exact eF _ _ _ _ _
 · exact rR _ _ _ _
section
variable {P:Program}
theorem zV {op:BinOp}{t:TypeId}{k k':IntKind}{a b:Int}{K:CV→Prop}(h:if isShift op then hshift op k a b K else k=k'∧hint op k a b K):
  ∃u,K u∧u.sc=true∧ ∀w,(binOp op t (.int k a) (.int k' b)).run P w= .ok u.val w:=by
 by_cases hs:isShift op=true
 ·
  rw[if_pos hs]at h;cases op<;>simp[isShift]at hs<;>simp only[hshift]at h
  · exact⟨_,h.2,rfl,fun w=>by simp[binOp,Op.shift,Int.not_lt.2 h.1,CV.val]⟩
  · exact⟨_,h.2,rfl,fun w=>by simp[binOp,Op.shift,Int.not_lt.2 h.1,CV.val]⟩
 ·
  rw[if_neg hs]at h;obtain⟨rfl,h⟩:=h;cases op<;>simp[isShift]at hs<;>simp only[hint]at h
  case quo=>exact⟨_,h.2,rfl,fun w=>by simp[binOp,Op.intDiv,h.1,CV.val]⟩
  case rem=>exact⟨_,h.2,rfl,fun w=>by simp[binOp,Op.intDiv,h.1,CV.val]⟩
  all_goals exact⟨_,h,rfl,fun w=>by simp[binOp,Op.intArith,Op.intBits,Op.intCmp,CV.val]⟩
theorem nI (op:BinOp)(t:TypeId)(a b:ByteArray)(h:isShift op=false):binOp op t (.string a) (.string b)=Op.stringOp op a b:=by
 cases op<;>simp[isShift]at h<;>rfl
theorem zW {op:BinOp}{t:TypeId}{a b:List UInt8}{K:CV→Prop}(h:hstr op a b K):
  ∃u,K u∧u.sc=true∧ ∀w,(binOp op t (.string ⟨a.toArray⟩) (.string ⟨b.toArray⟩)).run P w= .ok u.val w:=by
 have hb:=bC5 a b;have hlt:Op.bytesLess (⟨a.toArray⟩:ByteArray).toList (⟨b.toArray⟩:ByteArray).toList=slt a b:=by rw[ByteArray.toList_mk,ByteArray.toList_mk];rfl
 cases op<;>simp only[hstr]at h
 case add=>
  refine⟨_,h.2,rfl,fun w=>?_⟩;rw[nI _ _ _ _ rfl];simp only[Op.stringOp];have h1: ¬((((⟨a.toArray⟩:ByteArray).size+(⟨b.toArray⟩:ByteArray).size:Nat):Int)>IntKind.i64.max):=by
   have:(⟨a.toArray⟩:ByteArray).size=a.length:=by simp[ByteArray.size]
   have h2:(⟨b.toArray⟩:ByteArray).size=b.length:=by simp[ByteArray.size]
   rw[this,h2];simp only[IntKind.max,IntKind.signed,IntKind.bits];have:=h.1;simp only[if_true];omega
  rw[if_neg h1];simp only[Sem.run_pure,CV.val];have e:(⟨a.toArray⟩:ByteArray)++⟨b.toArray⟩=⟨(a++b).toArray⟩:=by apply ByteArray.ext;simp[ByteArray.data_append]
  rw[e]
 all_goals first
  |exact h.elim
  |exact⟨_,h,rfl,fun w=>by rw[nI _ _ _ _ rfl];simp only[Op.stringOp,hb,hlt,Sem.run_pure,CV.val]⟩
end
def HV.len (x:HV)(ob:Ob):Option Nat:=
 match x with
 | .c (.str s)=>some s.length
 |x=>(hread x ob).map List.length
def hslice (P:Program)(t:TypeId)(x:HV)(lo hi:Option HV)(K:HV→Prop):Prop:=
 hlift (aP P t) fun ti=>
  let bnd (n:Nat) (G:Nat→Nat→Prop):Prop:=
   hlift (match lo with|none=>some 0|some (.c (.int _ i))=>some i|_=>none) fun(l:Int)=>
   hlift (match hi with|none=>some (n:Int)|some (.c (.int _ i))=>some i|_=>none) fun(h:Int)=>
   (0≤l∧l≤h∧h≤(n:Int))∧G l.toNat h.toNat
  match ti.d,x with
  | .string,.c (.str s)=>bnd s.length fun l h=>K (.c (.str ((s.drop l).take (h-l))))
  | .slice e,.c (.slc s)=>hlift (aP P e) fun te=>(∀v∈s,v.cells=te.size)∧bnd s.length fun l h=>K (.c (.slc ((s.drop l).take (h-l))))
  | .slice e,.c .nils=>hlift (aP P e) fun _=>bnd 0 fun _ _=>K (.c .nils)
  | .array m e,.c (.rp (.agg s))=>hlift (aP P e) fun te=>((∀v∈s,v.cells=te.size)∧s.length=m)∧bnd m fun l h=>K (.c (.slc ((s.drop l).take (h-l))))
  |_,_=>False
def hslice3 (P:Program)(t:TypeId)(x:HV)(lo:Option HV)(hi mx:HV)(K:HV→Prop):Prop:=
 hlift (aP P t) fun ti=>
  match ti.d,x,hi,mx with
  | .slice e,.c (.slc s),.c (.int _ h),.c (.int _ m)=>hlift (aP P e) fun te=>(∀v∈s,v.cells=te.size)∧
   hlift (match lo with|none=>some 0|some (.c (.int _ i))=>some i|_=>none) fun(l:Int)=>(0≤l∧l≤h∧h≤m∧m≤(s.length:Int))∧K (.c (.slc ((s.drop l.toNat).take (h.toNat-l.toNat))))
  |_,_,_,_=>False
section
variable {P:Program}{c:Ctx}{M M':Nat→Prop}{fr:Fr}{ob:Ob}{a:Act}{w:World}{ρ:Env}
theorem gU (h:RepA' c M fr ob a w ρ){lo:Option Operand}{dflt l:Int}(hl:(match lo.map (ev fr)with|none=>some dflt|some (.c (.int _ i))=>some i|_=>none)=some l):
  (lo=none∧l=dflt)∨ ∃x k,lo=some x∧a.eval x= .int k l:=by
 cases lo with
 |none=>grind
 |some x=>
  simp only[Option.map_some]at hl;split at hl
  · grind
  · rename_i k i he;cases hl;exact .inr ⟨x,k,rfl,dR h (by grind)⟩
  grind
theorem dD (b:Bool)(n cap:Nat){lo hi:Option Operand}{l hh:Int}
  (h1:(lo=none∧l=0)∨ ∃x k,lo=some x∧a.eval x= .int k l) (h2:(hi=none∧hh=(n:Int))∨ ∃x k,hi=some x∧a.eval x= .int k hh)
  (hb:0≤l∧l≤hh∧hh≤(n:Int)) (hnc:n≤cap):
  (Instr.sliceBounds b n cap (lo.map a.eval) (hi.map a.eval) none).run P w= .ok (l.toNat,hh.toNat,cap) w:=by
 obtain⟨b0,b1,b2⟩:=hb;have c1:hh≤(cap:Int):=by omega
 have c2:0≤hh:=by omega
 have c3:l≤((hh.toNat:Nat):Int):=by omega
 rcases h1 with⟨rfl,rfl⟩|⟨x,k,rfl,e1⟩<;>rcases h2 with⟨rfl,rfl⟩|⟨x',k',rfl,e2⟩
 all_goals simp_all[Instr.sliceBounds,Instr.sliceBound,asIntOf,Int.max_eq_left]
theorem pA {O:Nat→Prop}{sz:Nat}: ∀{l:List CV} {cs:List Value} (k:Nat),RepL w O l cs→(∀v∈l,v.cells=sz)→k≤l.length→ ∃c1 c2,cs=c1++c2∧c1.length=k*sz∧RepL w O (l.drop k) c2
 |l,cs,0,h,_,_=>⟨[],cs,by simp,by simp,by grind⟩
 |[],cs,k+1,_,_,hk=>by grind
 |v::vs,cs,k+1,h,hc,hk=>by
  simp only[RepL]at h;obtain⟨c1,c2,rfl,h1,h2⟩:=h;obtain⟨d1,d2,rfl,e1,e2⟩:=pA k h2 (fun u hu=>hc u (by grind)) (by grind);exact⟨c1++d1,d2,by simp,by rw[List.length_append,bG h1,hc v (by simp),e1,Nat.add_mul];omega,by grind⟩
theorem pB {O:Nat→Prop}: ∀{l:List CV} {cs:List Value} (k:Nat),RepL w O l cs→ ∃c1 c2,cs=c1++c2∧RepL w O (l.take k) c1
 |l,cs,0,_=>⟨[],cs,by simp,by simp[RepL]⟩
 |[],cs,k+1,h=>⟨cs,[],by simp,by grind⟩
 |v::vs,cs,k+1,h=>by
  simp only[RepL]at h;obtain⟨c1,c2,rfl,h1,h2⟩:=h;obtain⟨d1,d2,rfl,e2⟩:=pB k h2;exact⟨c1++d1,d2,by simp,by simp only[List.take_succ_cons,RepL];grind⟩
theorem aN1 (h:RepA' c M fr ob a w ρ){t:TypeId}{x:Operand}{lo hi:Option Operand}{K:HV→Prop}(hl:hslice P t (ev fr x) (lo.map (ev fr)) (hi.map (ev fr)) K):
  ∃u y,K u∧(Instr.sliceAt t (a.eval x) (lo.map a.eval) (hi.map a.eval) none).run P w= .ok y w∧RepV w ρ (Owned ρ c.X) u y∧u.men M:=by
 unfold hslice at hl;rw[aC]at hl;obtain⟨ti,ht,hl⟩:=hl;obtain⟨i0,d0,zv0,hty⟩:=bB ht;have hdd:=hty.d_;simp only at hl;split at hl
 ·
  rename_i s hd0 hx;rw[hd0]at hdd;have hu:P.underlying t=some .string:=by rw[hty.under];congr 1;cases d0<;>simp[tyd]at hdd;rfl
  rw[aC]at hl;obtain⟨l,hlo,hl⟩:=hl;rw[aC]at hl;obtain⟨hh,hhi,hb,hK⟩:=hl;have hbr:=dD (P:=P) (w:=w) (a:=a) false s.length s.length (gU h hlo) (gU h hhi) hb (Nat.le_refl _);have hsz:(⟨s.toArray⟩:ByteArray).size=s.length:=by simp[ByteArray.size]
  refine⟨_,.string ((⟨s.toArray⟩:ByteArray).extract l.toNat hh.toNat),hK,?_,?_,by simp[HV.men]⟩
  · rw[lM h hx];simp only[Instr.sliceAt,Sem.run_bind,run_underlying hu,Result.andThen_ok,Instr.slice,hsz];simp_all
  grind[ByteArray.extract_mk,rR]
 ·
  rename_i e s hd0 hx;rw[hd0]at hdd;have hu:P.underlying t=some (.slice e):=by rw[hty.under];congr 1;cases d0<;>simp[tyd]at hdd;grind
  rw[aC]at hl;obtain⟨te,hte,hcs,hl⟩:=hl;obtain⟨ie,de,zve,htye⟩:=bB hte;rw[aC]at hl;obtain⟨l,hlo,hl⟩:=hl;rw[aC]at hl;obtain⟨hh,hhi,hb,hK⟩:=hl;obtain⟨ad,cap,xs,sz,he,hl2,hcs2,hcap,hn,hrd⟩:=aH6 h hx;have hbr:=dD (P:=P) (w:=w) (a:=a) true s.length cap (gU h hlo) (gU h hhi) hb hcap;have hsz:(sizeOf e).run P w= .ok te.size w:=by rw[bZ htye.info,htye.size]
  obtain⟨b0,b1,b2⟩:=hb;have hlen:((s.drop l.toNat).take (hh.toNat-l.toNat)).length=hh.toNat-l.toNat:=by
   rw[List.length_take,List.length_drop];omega
  obtain⟨c1,c2,rfl,e1,e2⟩:=pA l.toNat hl2 hcs (by omega);obtain⟨f1,f2,rfl,e3⟩:=pB (hh.toNat-l.toNat) e2;refine⟨_,.slice (if cap=l.toNat then ad else ad.map (·.add (l.toNat*te.size))) (hh.toNat-l.toNat) (cap-l.toNat),hK,?_,?_,by simp[HV.men]⟩
  · rw[he];simp only[Instr.sliceAt,Sem.run_bind,run_underlying hu,Result.andThen_ok,Instr.slice,hbr,hsz,Sem.run_pure]
  ·
   refine bW ?_ rfl rfl;simp only[RepC];refine⟨_,cap-l.toNat,f1,te.size,by rw[hlen],e3,fun v hv=>hcs v (List.mem_of_mem_drop (List.mem_of_mem_take hv)),by rw[hlen];omega,?_,?_⟩
   ·
    intro hnone;split at hnone
    · omega
    ·
     cases ad with
     |none=>have:=hn rfl;omega
     |some b=>simp at hnone
   ·
    intro b hb2;split at hb2
    ·
     rename_i hc;have hz:f1=[]:=List.eq_nil_of_length_eq_zero (by
      rw[dU e3 (fun v hv=>hcs v (List.mem_of_mem_drop (List.mem_of_mem_take hv))),hlen];have:hh.toNat-l.toNat=0:=by omega
      rw[this];simp)
     subst hz;exact⟨by simp,by simp⟩
    ·
     cases ad with
     |none=>simp at hb2
     |some b'=>
      simp only[Option.map_some,Option.some.injEq]at hb2;subst hb2;rw[←e1];have:=hrd b' rfl;rw[←List.append_assoc]at this;exact this.part
 ·
  rename_i e hd0 hx;rw[hd0]at hdd;have hu:P.underlying t=some (.slice e):=by rw[hty.under];congr 1;cases d0<;>simp[tyd]at hdd;grind
  rw[aC]at hl;obtain⟨te,hte,hl⟩:=hl;obtain⟨ie,de,zve,htye⟩:=bB hte;rw[aC]at hl;obtain⟨l,hlo,hl⟩:=hl;rw[aC]at hl;obtain⟨hh,hhi,hb,hK⟩:=hl;have hbr:=dD (P:=P) (w:=w) (a:=a) true 0 0 (gU h hlo) (gU h hhi) hb (Nat.le_refl _);have hl0:l.toNat=0:=by omega
  have hh0:hh.toNat=0:=by omega
  refine⟨_,.slice none 0 0,hK,?_,bW (by simp[RepC]) rfl rfl,by simp[HV.men]⟩;rw[wV h hx];simp only[Instr.sliceAt,Sem.run_bind,run_underlying hu,Result.andThen_ok,Instr.slice,hbr,bZ htye.info,Sem.run_pure,hl0,hh0];simp
 ·
  rename_i m e s hd0 hx;rw[hd0]at hdd;have hu:P.underlying t=some (.array m e):=by rw[hty.under];congr 1;cases d0<;>simp[tyd]at hdd;grind
  rw[aC]at hl;obtain⟨te,hte,⟨hcs,hsm⟩,hl⟩:=hl;obtain⟨ie,de,zve,htye⟩:=bB hte;rw[aC]at hl;obtain⟨l,hlo,hl⟩:=hl;rw[aC]at hl;obtain⟨hh,hhi,hb,hK⟩:=hl;obtain⟨ad,xs,he,hl2,hrd⟩:=bC4 h hx;simp only[RepC]at hl2;have hbr:=dD (P:=P) (w:=w) (a:=a) false m m (gU h hlo) (gU h hhi) hb (Nat.le_refl _);have hsz:(sizeOf e).run P w= .ok te.size w:=by rw[bZ htye.info,htye.size]
  obtain⟨b0,b1,b2⟩:=hb;have hlen:((s.drop l.toNat).take (hh.toNat-l.toNat)).length=hh.toNat-l.toNat:=by
   rw[List.length_take,List.length_drop];omega
  obtain⟨c1,c2,rfl,e1,e2⟩:=pA l.toNat hl2 hcs (by omega);obtain⟨f1,f2,rfl,e3⟩:=pB (hh.toNat-l.toNat) e2;refine⟨_,.slice (some (if m=l.toNat then ad else ad.add (l.toNat*te.size))) (hh.toNat-l.toNat) (m-l.toNat),hK,?_,?_,by simp[HV.men]⟩
  · rw[he];simp only[Instr.sliceAt,Sem.run_bind,run_underlying hu,Result.andThen_ok,Instr.sureAddr,Sem.run_pure,hbr,hsz]
  ·
   refine bW ?_ rfl rfl;simp only[RepC];refine⟨_,m-l.toNat,f1,te.size,by rw[hlen],e3,fun v hv=>hcs v (List.mem_of_mem_drop (List.mem_of_mem_take hv)),by rw[hlen];omega,fun hn=>(by cases hn),fun b hb2=>?_⟩;simp only[Option.some.injEq]at hb2;subst hb2;split
   ·
    have hz:f1=[]:=List.eq_nil_of_length_eq_zero (by
     rw[dU e3 (fun v hv=>hcs v (List.mem_of_mem_drop (List.mem_of_mem_take hv))),hlen];have:hh.toNat-l.toNat=0:=by omega
     rw[this];simp)
    subst hz;exact⟨by simp,by simp⟩
   · rw[←e1];have:=hrd;rw[←List.append_assoc]at this;exact this.part
 grind
theorem aI0 (h:RepA' c M fr ob a w ρ){t:TypeId}{x hi mx:Operand}{lo:Option Operand}{K:HV→Prop}(hl:hslice3 P t (ev fr x) (lo.map (ev fr)) (ev fr hi) (ev fr mx) K):
  ∃u y,K u∧(Instr.sliceAt t (a.eval x) (lo.map a.eval) (some (a.eval hi)) (some (a.eval mx))).run P w= .ok y w∧RepV w ρ (Owned ρ c.X) u y∧u.men M:=by
 unfold hslice3 at hl;rw[aC]at hl;obtain⟨ti,ht,hl⟩:=hl;obtain⟨i0,d0,zv0,hty⟩:=bB ht;have hdd:=hty.d_;split at hl
 ·
  rename_i e s kh hh km m hd0 hx hhi hmx;rw[hd0]at hdd;have hu:P.underlying t=some (.slice e):=by rw[hty.under];congr 1;cases d0<;>simp[tyd]at hdd;rw[hdd]
  rw[aC]at hl;obtain⟨te,hte,hcs,hl⟩:=hl;obtain⟨ie,de,zve,htye⟩:=bB hte;rw[aC]at hl;obtain⟨l,hlo,hb,hK⟩:=hl;obtain⟨ad,cap,xs,sz,he,hl2,hcs2,hcap,hn,hrd⟩:=aH6 h hx;obtain⟨b0,b1,b2,b3⟩:=hb;have hbr:(Instr.sliceBounds true s.length cap (lo.map a.eval) (some (a.eval hi)) (some (a.eval mx))).run P w= .ok (l.toNat,hh.toNat,m.toNat) w:=by
   have c1:m≤(cap:Int):=by omega
   have c2:0≤m:=by omega
   have c3:0≤hh:=by omega
   have c4:hh≤((m.toNat:Nat):Int):=by omega
   have c5:l≤((hh.toNat:Nat):Int):=by omega
   have e1:=dR h hmx;have e2:=dR h hhi;rcases gU h hlo with⟨rfl,rfl⟩|⟨x',k',rfl,e3⟩
   · simp[Instr.sliceBounds,Instr.sliceBound,e1,e2,asIntOf,c1,c2,c3,b2,Int.max_eq_left c2]
   · simp[Instr.sliceBounds,Instr.sliceBound,e1,e2,e3,asIntOf,c1,c2,c3,b0,b1,b2,Int.max_eq_left c2,Int.max_eq_left c3]
  have hsz:(sizeOf e).run P w= .ok te.size w:=by rw[bZ htye.info,htye.size]
  have hlen:((s.drop l.toNat).take (hh.toNat-l.toNat)).length=hh.toNat-l.toNat:=by
   rw[List.length_take,List.length_drop];omega
  obtain⟨c1,c2,rfl,e1,e2⟩:=pA l.toNat hl2 hcs (by omega);obtain⟨f1,f2,rfl,e3⟩:=pB (hh.toNat-l.toNat) e2;refine⟨_,.slice (if m.toNat=l.toNat then ad else ad.map (·.add (l.toNat*te.size))) (hh.toNat-l.toNat) (m.toNat-l.toNat),hK,?_,?_,by simp[HV.men]⟩
  · rw[he];simp only[Instr.sliceAt,Sem.run_bind,run_underlying hu,Result.andThen_ok,Instr.slice,hbr,hsz,Sem.run_pure]
  ·
   refine bW ?_ rfl rfl;simp only[RepC];refine⟨_,m.toNat-l.toNat,f1,te.size,by rw[hlen],e3,fun v hv=>hcs v (List.mem_of_mem_drop (List.mem_of_mem_take hv)),by rw[hlen];omega,?_,?_⟩
   ·
    intro hnone;split at hnone
    · omega
    ·
     cases ad with
     |none=>have:=hn rfl;omega
     |some b=>simp at hnone
   ·
    intro b hb2;split at hb2
    ·
     rename_i hc;have hz:f1=[]:=List.eq_nil_of_length_eq_zero (by
      rw[dU e3 (fun v hv=>hcs v (List.mem_of_mem_drop (List.mem_of_mem_take hv))),hlen];have:hh.toNat-l.toNat=0:=by omega
      rw[this];simp)
     subst hz;exact⟨by simp,by simp⟩
    ·
     cases ad with
     |none=>simp at hb2
     |some b'=>
      simp only[Option.map_some,Option.some.injEq]at hb2;subst hb2;rw[←e1];have:=hrd b' rfl;rw[←List.append_assoc]at this;exact this.part
 grind
end
end Go.Hl
namespace Go.Hl
open Go
open Go.ChangeMaps (setBlock heap_setBlock_same heap_setBlock_other)
theorem mB (z:Array Value): ∀n,(Builtin.zeroCells z n).toList=(List.replicate n z.toList).flatten
 |0=>by simp[Builtin.zeroCells]
 |n+1=>by
  have ih:=mB z n;simp only[Builtin.zeroCells,Array.toList_map,Array.toList_range]at ih⊢;rw[Nat.succ_mul,List.range_add,List.map_append,ih,List.replicate_succ',List.flatten_append];congr 1;simp only[List.flatten_cons,List.flatten_nil,List.append_nil,List.map_map];apply List.ext_getElem?;intro i;simp only[List.getElem?_map,Array.getElem?_toList];by_cases hi:i<z.size
  · rw[List.getElem?_range hi];simp only[Option.map_some,Function.comp,Nat.mul_add_mod_of_lt' hi,hi,Array.getElem?_eq_getElem];grind
  grind
where
 Nat.mul_add_mod_of_lt' {n i s:Nat} (h:i<s):(n*s+i)%s=i:=by
  rw[Nat.mul_comm,Nat.mul_add_mod,Nat.mod_eq_of_lt h]
theorem nS {w:World}{O:Nat→Prop}{z:CV}{cs:List Value}(h:RepC w O z cs): ∀n,RepL w O (List.replicate n z) (List.replicate n cs).flatten
 |0=>by simp[RepL]
 |n+1=>by simp only[List.replicate_succ,List.flatten_cons,RepL];exact⟨cs,_,rfl,h,nS h n⟩
def hlo (lo:Option HV)(dflt:Int):Option Int:=match lo with|none=>some dflt|some (.c (.int _ i))=>some i|_=>none
def hslice2 (P:Program)(t:TypeId)(x:HV)(lo hi:Option HV)(ob:Ob)(K:HV→Prop):Prop:=
 match x with
 | .own id n=>hlift (aP P t) fun ti=>match ti.d,ob id with
  | .slice e,some (.row _ sz l)=>hlift (aP P e) fun te=>(n=l.length∧0<n∧sz=te.size)∧hlift (hlo lo 0) fun a=>hlift (hlo hi n) fun b=>(0≤a∧a≤b∧b≤(n:Int))∧K (.osl id n a.toNat sz b.toNat)
  |_,_=>False
 | .ptr id off=>hlift (aP P t) fun ti=>match ti.d,ob id with
  | .array m e,some (.box _ _)=>hlift (aP P e) fun te=>off=0∧hlift (hlo lo 0) fun a=>hlift (hlo hi m) fun b=>(0≤a∧a≤b∧b≤(m:Int))∧K (.osl id m a.toNat te.size b.toNat)
  |_,_=>False
 |x=>hslice P t x lo hi K
def cO2 (l u:List CV)(lo:Nat):List CV:=l.take lo++u++l.drop (lo+u.length)
def hcopy (P:Program)(t:TypeId)(d s:HV)(ob:Ob)(K:HV→Ob→Prop):Prop:=
 hlift (aP P t) fun ti=>match ti.d,d with
  | .slice e,.osl id n lo sz hi=>hlift (aP P e) fun te=>match ob id with
   |some (.box T (.c (.agg l)))=>hlift (hread s ob) fun u=>(n=l.length∧sz=te.size∧lo≤hi∧hi≤n∧(∀v∈l,v.cells=sz)∧ ∀v∈u,v.cells=sz)∧
     K (.c (.int .i64 ((min u.length (hi-lo):Nat):Int))) (upd ob id (some (.box T (.c (.agg (cO2 l (u.take (hi-lo)) lo))))))
   |_=>False
  |_,_=>False
def hclear (P:Program)(t:TypeId)(x:HV)(ob:Ob)(K:HV→Ob→Prop):Prop:=
 hlift (aP P t) fun ti=>match ti.d,x with
  | .slice e,.osl id n lo sz hi=>hlift (aP P e) fun te=>match ob id with
   |some (.row e' sz' l)=>(n=l.length∧0<n∧sz=sz'∧sz=te.size∧lo≤hi∧hi≤n)∧K .junk (upd ob id (some (.row e' sz' (l.take lo++List.replicate (hi-lo) te.z++l.drop hi))))
   |_=>False
  |_,_=>False
def xO :Option MV→Bool
 |none=>true
 |some (.row _)=>true
 |_=>false
def aI1 :Option MV→Bool
 |none=>true
 |some (.row _)=>true
 |some (.pend _)=>true
 |_=>false
def qK :Option MV→Bool
 |none=>true
 |some (.val _)=>true
 |_=>false
def bC6 (z:CV):Option MV→CV
 |some (.val v)=>v
 |_=>z
def hmakeMap (P:Program)(t:TypeId)(nid:Nat)(ob:Ob)(K:HV→Ob→Prop):Prop:=
 hlift (aP P t) fun ti=>match ti.d with
  | .map _ et=>hlift (aP P et) fun te=>match te.d with
   | .slice e=>hlift (aP P e) fun t2=>K (.mapr nid) (upd ob nid (some (.mp e t2.size [])))
   |_=>K (.mapr nid) (upd ob nid (some (.mp 0 0 [])))
  |_=>False
def hlookup (P:Program)(t:TypeId)(m k:HV)(ob:Ob)(K:HV→Prop):Prop:=
 hlift (aP P t) fun ti=>match ti.d with
  | .map kt et=>hlift (aP P kt) fun tk=>hlift (aP P et) fun te=>match tk.d,m,k with
   | .string,.mapr id,.c (.str s)=>s.length≤maxLen∧match ob id with
    |some (.mp _ _ D)=>match te.d,te.z with
     | .slice _,.nils=>xO (dH D s)=true∧K (.mrow id s (fU (dH D s)).length)
     |_,_=>qK (dH D s)=true∧K (.c (bC6 te.z (dH D s)))
    |_=>False
   |_,_,_=>False
  |_=>False
def hmapUpdate (P:Program)(t:TypeId)(m k v:HV)(ob:Ob)(K:HV→Ob→Prop):Prop:=
 hlift (aP P t) fun ti=>match ti.d with
  | .map kt et=>hlift (aP P kt) fun tk=>hlift (aP P et) fun te=>match tk.d,m,k with
   | .string,.mapr id,.c (.str s)=>s.length≤maxLen∧match ob id with
    |some (.mp e sz D)=>match te.d,v with
     | .slice _,.mrow id2 s2 n=>(id2=id∧s2=s∧n=(fU (dH D s)).length∧aI1 (dH D s)=true)∧K .junk (upd ob id (some (.mp e sz (qI D s (.row (fU (dH D s)))))))
     |_,.c cv=>qK (dH D s)=true∧K .junk (upd ob id (some (.mp e sz (qI D s (.val cv)))))
     |_,_=>False
    |_=>False
   |_,_,_=>False
  |_=>False
def happend2 (P:Program)(t:TypeId)(s x:HV)(nid:Nat)(ob:Ob)(K:HV→Ob→Prop):Prop:=
 match s with
 | .mrow id k n=>hlift (aP P t) fun ti=>match ti.d with
  | .slice e=>hlift (aP P e) fun te=>hlift (hread x ob) fun l2=>(∀v∈l2,v.cells=te.size)∧
   match ob id with
   |some (.mp e' sz D)=>(aI1 (dH D k)=true∧n=(fU (dH D k)).length∧e'=e∧sz=te.size)∧((fU (dH D k)).length+l2.length)*te.bytes≤140737488355328∧(fU (dH D k)).length+l2.length≤maxLen∧
     K (.mrow id k (fU (dH D k)++l2).length) (upd ob id (some (.mp e' sz (qI D k (.pend (fU (dH D k)++l2))))))
   |_=>False
  |_=>False
 |s=>happend P t s x nid ob K
section
variable {P:Program}{c:Ctx}{M M':Nat→Prop}{fr:Fr}{ob:Ob}{a:Act}{w:World}{ρ:Env}
theorem lO (h:RepA' c M fr ob a w ρ){lo:Option Operand}{dflt l:Int}(hl:hlo (lo.map (ev fr)) dflt=some l):(lo=none∧l=dflt)∨ ∃x k,lo=some x∧a.eval x= .int k l:=
 gU h hl
theorem aI2 (h:RepA' c M fr ob a w ρ){t:TypeId}{x:Operand}{lo hi:Option Operand}{K:HV→Prop}(hl:hslice2 P t (ev fr x) (lo.map (ev fr)) (hi.map (ev fr)) ob K):
  ∃u y,K u∧(Instr.sliceAt t (a.eval x) (lo.map a.eval) (hi.map a.eval) none).run P w= .ok y w∧RepV w ρ (Owned ρ c.X) u y∧u.men M:=by
 unfold hslice2 at hl;split at hl
 ·
  rename_i id n hx;rw[aC]at hl;obtain⟨ti,ht,hl⟩:=hl;obtain⟨i0,d0,zv0,hty⟩:=bB ht;have hdd:=hty.d_;split at hl
  ·
   rename_i e sz0 sz l hd0 ho;rw[hd0]at hdd;have hu:P.underlying t=some (.slice e):=by rw[hty.under];congr 1;cases d0<;>simp[tyd]at hdd;grind
   rw[aC]at hl;obtain⟨te,hte,⟨hn,hn0,rfl⟩,hl⟩:=hl;obtain⟨ie,de,zve,htye⟩:=bB hte;rw[aC]at hl;obtain⟨lo',hlo,hl⟩:=hl;rw[aC]at hl;obtain⟨hi',hhi,hb,hK⟩:=hl;obtain⟨hd,xs,h1,h2,h3,h4,h5,how⟩:=mA h hx ho hn;rcases how.2 with⟨rfl,hz⟩|⟨g,cap,cur,rfl,_,hg,hcap,_⟩
   · omega
   have hbr:=dD (P:=P) (w:=w) (a:=a) true n cap (lO h hlo) (lO h hhi) hb hcap;have hsz:(sizeOf e).run P w= .ok te.size w:=by rw[bZ htye.info,htye.size]
   have hid:=h.evm x;rw[hx]at hid;refine⟨_,.slice (if cap=lo'.toNat then some ⟨g,0,none⟩else(some (⟨g,0,none⟩:Addr)).map (·.add (lo'.toNat*te.size))) (hi'.toNat-lo'.toNat) (cap-lo'.toNat),hK,?_,?_,by simpa[HV.men]using hid⟩
   · simp_all[Instr.sliceAt,Sem.run_bind,run_underlying,Result.andThen_ok,Instr.slice,Sem.run_pure]
   · refine dC ?_ rfl rfl;simp only[RepH];refine⟨_,rfl,by simp[Value.oneCell'],fun hd' hρ=>?_,fun b hρ=>by grind⟩;rw[h1]at hρ;cases hρ;refine⟨by grind,fun _ g' cap' e'=>?_⟩;cases e';congr 1;by_cases hc:cap=lo'.toNat;all_goals simp_all[if_false,Option.map_some,Option.some.injEq,Addr.add]
  grind
 ·
  rename_i id off hx;rw[aC]at hl;obtain⟨ti,ht,hl⟩:=hl;obtain⟨i0,d0,zv0,hty⟩:=bB ht;have hdd:=hty.d_;split at hl
  ·
   rename_i m e T v hd0 ho;rw[hd0]at hdd;have hu:P.underlying t=some (.array m e):=by rw[hty.under];congr 1;cases d0<;>simp[tyd]at hdd;grind
   rw[aC]at hl;obtain⟨te,hte,rfl,hl⟩:=hl;obtain⟨ie,de,zve,htye⟩:=bB hte;rw[aC]at hl;obtain⟨lo',hlo,hl⟩:=hl;rw[aC]at hl;obtain⟨hi',hhi,hb,hK⟩:=hl;obtain⟨b,hρ,he⟩:=kF h hx (by rw[ho];rfl);have hbr:=dD (P:=P) (w:=w) (a:=a) false m m (lO h hlo) (lO h hhi) hb (Nat.le_refl _);have hsz:(sizeOf e).run P w= .ok te.size w:=by rw[bZ htye.info,htye.size]
   have hid:=h.evm x;rw[hx]at hid;refine⟨_,.slice (some (if m=lo'.toNat then⟨b,0,none⟩else(⟨b,0,none⟩:Addr).add (lo'.toNat*te.size))) (hi'.toNat-lo'.toNat) (m-lo'.toNat),hK,?_,?_,by simpa[HV.men]using hid⟩
   · simp_all[Instr.sliceAt,Sem.run_bind,run_underlying,Result.andThen_ok,Instr.sureAddr,Sem.run_pure]
   · refine dC ?_ rfl rfl;simp only[RepH];refine⟨_,rfl,by simp[Value.oneCell'],fun hd' hρ'=>(by grind),fun b' hρ'=>?_⟩;rw[hρ]at hρ';cases hρ';congr 1;by_cases hc:m=lo'.toNat;all_goals simp_all[if_false,Option.some.injEq,Addr.add]
  grind
 · exact aN1 h hl
theorem aW1 (h:RepA' c M fr ob a w ρ){t t' ty:TypeId}{x y:Operand}{K:HV→Ob→Prop}(hl:hcopy P t (ev fr x) (ev fr y) ob K):
  ∃v ob' z w',K v ob'∧(Builtin.copy_ #[t,t'] ty #[a.eval x,a.eval y]).run P w= .ok z w'∧ ∀(d:Option Nat),(∀k,d=some k→k<c.n)→RepA' c M (updo fr d v) ob' (a.put d z) w' ρ:=by
 unfold hcopy at hl;rw[aC]at hl;obtain⟨ti,ht,hl⟩:=hl;obtain⟨i0,d0,zv0,hty⟩:=bB ht;have hdd:=hty.d_;split at hl
 ·
  rename_i e id n lo sz hi hd0 hx;rw[hd0]at hdd;have hu:P.underlying t=some (.slice e):=by rw[hty.under];congr 1;cases d0<;>simp[tyd]at hdd;rw[hdd]
  rw[aC]at hl;obtain⟨te,hte,hl⟩:=hl;obtain⟨ie,de,zve,htye⟩:=bB hte;split at hl
  ·
   rename_i T l ho;rw[aC]at hl;obtain⟨u,hrd,⟨hn,hse,hlo,hhi,hcl,hcu⟩,hK⟩:=hl;subst hn hse;obtain⟨ad,m,cap,xs,hsv,hm,hxs,hnone,hcells,_⟩:=jE h hrd;subst hm;obtain⟨b,cs,hρ,hb,hcs⟩:=h.box ho;simp only[RepH,RepC]at hcs;have hr:=dI (h.ev x (by rw[hx];simp)) (by rw[hx];rfl);rw[hx]at hr;simp only[RepH]at hr;obtain⟨⟨y',hy,hy1,_,hy2⟩,_⟩:=hr;simp only[List.cons.injEq,and_true]at hy;have hxe:=hy2 b hρ;rw[←hy]at hxe;have hsz:(sizeOf e).run P w= .ok te.size w:=by rw[bZ htye.info,htye.size]
   obtain⟨k,hk⟩: ∃k,k=min u.length (hi-lo):=⟨_,rfl⟩;have hku:(u.take (hi-lo)).length=k:=by rw[List.length_take,hk,Nat.min_comm]
   have hxl:xs.length=u.length*te.size:=dU hxs hcu;have hcl2:cs.length=l.length*te.size:=dU hcs hcl;have hxk:(xs.take (k*te.size)).length=k*te.size:=by
    rw[List.length_take,hxl];exact Nat.min_eq_left (Nat.mul_le_mul_right _ (by omega))
   have hxt:RepL w (Owned ρ c.X) (u.take (hi-lo)) (xs.take (k*te.size)):=by
    have:=fM k hxs hcu;have e:u.take k=u.take (hi-lo):=by
     rcases Nat.le_total u.length (hi-lo)with h1|h1
     · rw[hk,Nat.min_eq_left h1,List.take_of_length_le (Nat.le_refl _),List.take_of_length_le h1]
     · rw[hk,Nat.min_eq_right h1]
    rw[←e];exact this
   have hload:(Builtin.firstCells te.size k (.slice ad u.length cap)).run P w= .ok (xs.take (k*te.size)).toArray w:=by
    cases ad with
    |none=>
     have:=hnone rfl;have hk0:k=0:=by omega
     simp[Builtin.firstCells,hk0]
    |some b'=>
     have:=run_loadCells_list (P:=P) w b' (xs.take (k*te.size)) (fun j v hj=>by
      rw[List.getElem?_take]at hj;split at hj
      · exact hcells b' rfl j v hj
      · cases hj)
     rw[hxk]at this;simpa only[Builtin.firstCells]using this
   obtain⟨off,hoff⟩: ∃off,off=if l.length=lo then 0 else lo*te.size:=⟨_,rfl⟩
   have hbound:off+k*te.size≤cs.length:=by
    rw[hoff,hcl2];split
    ·
     have:k=0:=by omega
     simp[this]
    · rw[←Nat.add_mul];exact Nat.mul_le_mul_right _ (by omega)
   have hrun:=run_storeCells_at P b off T (xs.take (k*te.size)) 0 cs.toArray w hb (by simp only[List.size_toArray,hxk];omega) (jK hxt);simp only[Nat.add_zero,hxk]at hrun;have hnew:RepL w (Owned ρ c.X) (cO2 l (u.take (hi-lo)) lo) (cs.take off++xs.take (k*te.size)++cs.drop (off+k*te.size)):=by
    simp only[cO2,hku];by_cases hk0:k=0
    · have e1:u.take (hi-lo)=[]:=List.eq_nil_of_length_eq_zero (by omega);rw[e1,hk0];simpa using hcs
    ·
     have hoff2:off=lo*te.size:=by rw[hoff,if_neg (by omega)]
     rw[hoff2,←Nat.add_mul];exact dY.2 ⟨_,_,rfl,dY.2 ⟨_,_,rfl,fM lo hcs hcl,hxt⟩,iF (lo+k) hcs hcl⟩
   refine⟨_,_,.int .i64 ((k:Nat):Int),w.setRow b (cs.take off++xs.take (k*te.size)++cs.drop (off+k*te.size)).toArray,hK,?_,fun d hd=>h.setObj (b0:=b) hρ rfl (h.mo id _ ho).1 (fun b' hb'=>setRow_other w b b' _ hb') (setRow_size _ _ _) rfl rfl rfl (fun hst=>?_) (by simp[HO.men,HV.men]) (fun _=> .inr (by rw[←hk];exact eF _ _ _ _ _)) (by simp[HV.men]) hd⟩
   ·
    rw[hxe,hsv,←hoff];simp only[Builtin.copy_,List.getElem?_toArray,List.getElem?_cons_zero,List.getElem?_cons_succ,Sem.run_bind,run_underlying hu,Result.andThen_ok,Builtin.lenOf,Sem.run_pure,hsz];have e:Nat.min u.length (hi-lo)=k:=by rw[hk]
    simp only[e,hload,Result.andThen_ok,hrun,goInt]
   · refine⟨b,_,hρ,setRow_heap w b _ _ T (0,0) hb,?_⟩;simp only[RepH,RepC];exact hnew.stay hst
  · exact hl.elim
 · exact hl.elim
theorem aN2 (h:RepA' c M fr ob a w ρ){t ty:TypeId}{x:Operand}{K:HV→Ob→Prop}(hl:hclear P t (ev fr x) ob K):
  ∃ob' w',K .junk ob'∧(Builtin.clear_ #[t] ty #[a.eval x]).run P w= .ok (.tuple #[]) w'∧ ∀(d:Option Nat) (z:Value),(∀k,d=some k→k<c.n)→RepA' c M (updo fr d .junk) ob' (a.put d z) w' ρ:=by
 unfold hclear at hl;rw[aC]at hl;obtain⟨ti,ht,hl⟩:=hl;obtain⟨i0,d0,zv0,hty⟩:=bB ht;have hdd:=hty.d_;split at hl
 ·
  rename_i e id n lo sz hi hd0 hx;rw[hd0]at hdd;have hu:P.underlying t=some (.slice e):=by rw[hty.under];congr 1;cases d0<;>simp[tyd]at hdd;grind
  rw[aC]at hl;obtain⟨te,hte,hl⟩:=hl;obtain⟨ie,de,zve,htye⟩:=bB hte;split at hl
  ·
   rename_i e' sz' l ho;obtain⟨⟨hn,hn0,rfl,hse,hlo,hhi⟩,hK⟩:=hl;obtain⟨hd,xs,hρ,hl2,hcs,how⟩:=h.rowO ho;rcases how.2 with⟨rfl,hz⟩|⟨g,cap,cur,rfl,hg0,hg,hcap,hmax,hcsz,htake⟩
   · omega
   have hr:=dI (h.ev x (by grind)) (by rw[hx];rfl);rw[hx]at hr;simp only[RepH]at hr;obtain⟨⟨y,hy,hy1,hy2,_⟩,_⟩:=hr;simp only[List.cons.injEq,and_true]at hy;obtain⟨_,hy3⟩:=hy2 _ hρ;have hxe:a.eval x= .slice (some ⟨g,if cap=lo then 0 else lo*sz,none⟩) (hi-lo) (cap-lo):=by rw[hy];exact hy3 (by simp[Hl.hlen,hn]) g cap (by rw[hn])
   by_cases hz:hi=lo
   ·
    subst hz;have hl':l.take hi++List.replicate (hi-hi) te.z++l.drop hi=l:=by simp
    rw[hl']at hK;have hob:upd ob id (some (.row e' sz l))=ob:=by
     funext k;by_cases hk:k=id
     · simp_all
     · rw[aY _ _ hk]
    rw[hob]at hK;refine⟨_,w,hK,?_,fun d z hd=>h.value (.inl rfl) (by simp[HV.men]) hd⟩;rw[hxe];simp[Builtin.clear_,run_underlying hu]
   ·
    have hne:cap≠lo:=by omega
    have hzv:(zeroValue e).run P w= .ok zve w:=by simp[zeroValue,typeInfo,htye.info,htye.zero]
    have hzl:zve.cells.toList.length=te.size:=by simp[htye.zsize]
    have hzc:(Builtin.zeroCells zve.cells (hi-lo)).toList=(List.replicate (hi-lo) zve.cells.toList).flatten:=mB _ _;have hzlen:(List.replicate (hi-lo) zve.cells.toList).flatten.length=(hi-lo)*sz:=by simp[hzl,hse]
    have hrz:RepL w (Owned ρ c.X) (List.replicate (hi-lo) te.z) (List.replicate (hi-lo) zve.cells.toList).flatten:=nS (htye.rep w _) _;have hbound:lo*sz+(hi-lo)*sz=hi*sz:=by rw[←Nat.add_mul];congr 1;omega
    have hhn:hi*sz≤l.length*sz:=Nat.mul_le_mul_right _ (by omega);have hnc:l.length*sz≤cap*sz:=Nat.mul_le_mul_right _ hcap;have hrun:=run_storeCells_at P g (lo*sz) e' (List.replicate (hi-lo) zve.cells.toList).flatten 0 cur w hg (by grind) (jK hrz);simp only[Nat.add_zero,hzlen]at hrun;have hsplit:cur.toList.take (lo*sz)++(List.replicate (hi-lo) zve.cells.toList).flatten++cur.toList.drop (lo*sz+(hi-lo)*sz)=
      (xs.take (lo*sz)++(List.replicate (hi-lo) zve.cells.toList).flatten++xs.drop (hi*sz))++cur.toList.drop (l.length*sz):=by
     rw[←htake,hbound,List.take_take,Nat.min_eq_left (by omega)];simp only[List.append_assoc];congr 2;rw[List.drop_take];have e1:cur.toList.drop (hi*sz)=(cur.toList.drop (hi*sz)).take (l.length*sz-hi*sz)++cur.toList.drop (l.length*sz):=by
      have e0:cur.toList.drop (l.length*sz)=(cur.toList.drop (hi*sz)).drop (l.length*sz-hi*sz):=by
       rw[List.drop_drop];congr 1;omega
      rw[e0,List.take_append_drop]
     exact e1
    rw[hsplit]at hrun;refine⟨_,w.setRow g ((xs.take (lo*sz)++(List.replicate (hi-lo) zve.cells.toList).flatten++xs.drop (hi*sz))++cur.toList.drop (l.length*sz)).toArray,hK,?_,fun d z hd=>h.setObj (b0:=g) hρ (by simp[Loc.has,Value.ownBlock]) (h.mo id _ ho).1 (fun b' hb'=>setRow_other w g b' _ hb') (setRow_size _ _ _) rfl rfl rfl (fun hst=>?_) trivial (fun _=> .inl rfl) (by simp[HV.men]) hd⟩
    ·
     rw[hxe,if_neg hne];have hpos:hi-lo≠0:=by omega
     obtain⟨k,hk⟩:=Nat.exists_eq_succ_of_ne_zero hpos;rw[←hzc]at hrun;rw[hk]at hrun⊢;simp only[Builtin.clear_,Sem.run_bind,run_underlying hu,Result.andThen_ok,hzv,hrun,Sem.run_pure,List.getElem?_toArray,List.getElem?_cons_zero];rw[←hk,hzc]
    ·
     have hnl:(l.take lo++List.replicate (hi-lo) te.z++l.drop hi).length=l.length:=by simp;omega
     refine⟨_,_,hρ,dY.2 ⟨_,_,rfl,dY.2 ⟨_,_,rfl,(fM lo hl2 hcs).stay hst,hrz.stay hst⟩,(iF hi hl2 hcs).stay hst⟩,fun v hv=>?_,?_,.inr ⟨g,cap,_,by rw[hnl],Nat.zero_le _,setRow_heap w g _ _ e' (0,0) hg,by rw[hnl];exact hcap,hmax,?_,?_⟩⟩
     ·
      simp only[List.mem_append,List.mem_replicate]at hv;rcases hv with(hv|⟨_,rfl⟩)|hv
      · exact hcs v (List.mem_of_mem_take hv)
      · rw[hse,←bG (htye.rep w (fun _=>False)),hzl]
      · exact hcs v (List.mem_of_mem_drop hv)
     · rw[hnl];have hxl:=how.1;simp only[List.length_append,List.length_take,List.length_drop,hzlen];omega
     ·
      rw[←hcsz];have hxl:=how.1;have hcl:cur.toList.length=cur.size:=by simp
      simp only[List.size_toArray,List.length_append,List.length_take,List.length_drop,hzlen];omega
     · rw[hnl];refine List.take_left' ?_;have hxl:=how.1;simp only[List.length_append,List.length_take,List.length_drop,hzlen];omega
  grind
 grind
theorem bC7 (h:RepA' c M fr ob a w ρ){x:Operand}{id:Nat}(hx:ev fr x= .mapr id){e:TypeId}{sz:Nat}{D:MD}(ho:ob id=some (.mp e sz D)):
  ∃b hf,ρ id=some (.mp b hf)∧a.eval x= .map (some b)∧RepM w (Owned ρ c.X) e sz D b hf:=by
 have hr:=dI (h.ev x (by rw[hx];simp)) (by rw[hx];rfl);rw[hx]at hr;simp only[RepH]at hr;obtain⟨⟨y,hy,hy1,hy2⟩,_⟩:=hr;simp only[List.cons.injEq,and_true]at hy;obtain⟨b,hf,h1,h2⟩:=h.s.objs id _ ho;exact⟨b,hf,h1,by rw[hy];exact hy2 _ _ h1,h2⟩
theorem bC8 (h:RepA' c M fr ob a w ρ){x:Operand}{id n:Nat}{k:List UInt8}(hx:ev fr x= .mrow id k n){b:Nat}{hf:List UInt8→Option Value}{hd:Value}(hρ:ρ id=some (.mp b hf))(hk:hf k=some hd)(hn:hlen hd=n):a.eval x=hd:=by
 have hr:=dI (h.ev x (by rw[hx];simp)) (by rw[hx];rfl);rw[hx]at hr;simp only[RepH]at hr;obtain⟨⟨y,hy,hy1,hy2⟩,_⟩:=hr;simp only[List.cons.injEq,and_true]at hy;rw[hy];exact(hy2 _ _ _ hρ hk).2 hn
theorem xP {kt:TypeId}(hk:P.underlying kt=some .string){s:List UInt8}(hs:s.length≤maxLen): ∃l,keyOf P kt (fG s)=some l:=by
 have hsz:(⟨s.toArray⟩:ByteArray).size=s.length:=by simp[ByteArray.size]
 simp[keyOf,hk,mapKey,fG,hsz,hs]
theorem cO3 {e:TypeId}{sz:Nat}{D:MD}{b:Nat}{hf:List UInt8→Option Value}{O:Nat→Prop}(h:RepM w O e sz D b hf){k:List UInt8}(hk:dH D k≠some .lent): ∃hd,hf k=some hd∧hlen hd=(fU (dH D k)).length∧hd.oneCell'=true:=by
 cases hh:hf k with
 |none=>exact absurd ((h.lent k).1 hh) hk
 |some hd=>
  obtain⟨_,xs,_,_,how⟩:=h.row k hd hh;refine⟨hd,rfl,?_,?_⟩
  ·
   rcases how.2 with⟨rfl,hz⟩|⟨g,cap,cur,rfl,_⟩
   · simp[hlen,hz]
   · simp[hlen]
  · rcases how.2 with⟨rfl,hz⟩|⟨g,cap,cur,rfl,_⟩<;>simp[Value.oneCell']
theorem uB {id n:Nat}{k:List UInt8}{O:Nat→Prop}{b:Nat}{hf:List UInt8→Option Value}{hd:Value}(hρ:ρ id=some (.mp b hf))(hk:hf k=some hd)(hn:hlen hd=n)(h1:hd.oneCell'=true):RepV w ρ O (.mrow id k n) hd:=by
 refine dC ?_ rfl (gT h1);simp only[RepH];refine⟨_,rfl,h1,fun b' hf' h' e1 e2=>?_⟩;rw[hρ]at e1;cases e1;rw[hk]at e2;cases e2;exact⟨by omega,fun _=>rfl⟩
theorem cN0 {t kt et:TypeId}{ti tk:TyI}(ht:aP P t=some ti)(hd:ti.d= .map kt et)(hk:aP P kt=some tk)(hkd:tk.d= .string):P.underlying t=some (.map kt et)∧P.underlying kt=some .string:=by
 obtain⟨i0,d0,zv0,hty⟩:=bB ht;obtain⟨i1,d1,zv1,hty1⟩:=bB hk;have h1:=hty.d_;have h2:=hty1.d_;rw[hd]at h1;rw[hkd]at h2;refine⟨?_,?_⟩
 · rw[hty.under];congr 1;cases d0<;>simp[tyd]at h1;rw[h1.1,h1.2]
 · rw[hty1.under];congr 1;cases d1<;>simp[tyd]at h2;rfl
theorem aN3 {kt:TypeId}(hkt:P.underlying kt=some .string){D:MD}{hf:List UInt8→Option Value}{O:Nat→Prop}{es:Array MapEntry}
  (h4: ∀x∈es.toList,∃k m,dH D k=some m∧x.key=fG k∧k.length≤maxLen∧RepMV w O (hf k) m x.val) (h5: ∀k m,dH D k=some m→m.there=true→ ∃x∈es.toList,x.key=fG k) {s:List UInt8} (hs:s.length≤maxLen):
  (Instr.checkKey es.isEmpty 10000 kt (fG s)).run P w= .ok () w∧(Instr.checkKey false 10000 kt (fG s)).run P w= .ok () w∧(Instr.keyThatStays (fG s) (fG s)).run P w= .ok (fG s) w∧
  (((Instr.findKey kt (fG s) es.toList).run P w= .ok none w∧(∀x∈es.toList,x.key≠fG s)∧ ∀m,dH D s=some m→m.there=false)∨
   ∃j en m,(Instr.findKey kt (fG s) es.toList).run P w= .ok (some (j,en.val)) w∧es.toList[j]? =some en∧en.key=fG s∧dH D s=some m∧RepMV w O (hf s) m en.val):=by
 obtain⟨lk,hlk⟩:=xP (P:=P) hkt hs;have K:=Maps.string_keyed (P:=P) hkt;refine⟨K.check w _ hlk,K.check w _ hlk,K.stays w hlk,?_⟩;rcases K.find w hlk es.toList (fun x hx=>by
  obtain⟨k,m,_,e2,e3,_⟩:=h4 x hx;rw[e2];exact xP hkt e3)with⟨h1,h2⟩|⟨j,en,h1,h2,h3⟩
 ·
  refine .inl ⟨h1,h2,fun m hm=>?_⟩;cases ht:m.there with
  |false=>rfl
  |true=>
   obtain⟨x,hx,e⟩:=h5 s m hm ht;exact absurd e (h2 x hx)
 · obtain⟨k,m,e1,e2,e3,e4⟩:=h4 en (List.mem_of_getElem? h2);rw[h3]at e2;cases aM1 e2;exact .inr ⟨j,en,m,h1,h2,h3,e1,e4⟩
theorem aI3 (h:RepA' c M fr ob a w ρ){t:TypeId}{m k:Operand}{K:HV→Prop}(hl:hlookup P t (ev fr m) (ev fr k) ob K):
  ∃u y,K u∧(Instr.lookup t (a.eval m) (a.eval k) false).run P w= .ok y w∧RepV w ρ (Owned ρ c.X) u y∧u.men M:=by
 unfold hlookup at hl;rw[aC]at hl;obtain⟨ti,ht,hl⟩:=hl;split at hl
 ·
  rename_i kt et hdt;rw[aC]at hl;obtain⟨tk,htk,hl⟩:=hl;rw[aC]at hl;obtain⟨te,hte,hl⟩:=hl;split at hl
  ·
   rename_i id s hkd hm hk;obtain⟨hs,hl⟩:=hl;split at hl
   ·
    rename_i e sz D ho;obtain⟨hut,hkt⟩:=cN0 ht hdt htk hkd;obtain⟨b,hf,hρ,hme,hM⟩:=bC7 h hm ho;obtain⟨es,clock,hb,hst,h4,h5⟩:=hM.blk;obtain⟨c1,c2,c3,hfind⟩:=aN3 (P:=P) (w:=w) hkt h4 h5 hs;obtain⟨ie,de,zve,htye⟩:=bB hte;have hzv:(zeroValue et).run P w= .ok zve w:=by simp[zeroValue,typeInfo,htye.info,htye.zero]
    have hkey:a.eval k=fG s:=lM h hk;have hmid:=h.evm m;rw[hm]at hmid;have run0:(Instr.findKey kt (fG s) es.toList).run P w= .ok none w→(Instr.lookup t (a.eval m) (a.eval k) false).run P w= .ok zve w:=fun hr=>by
     rw[hme,hkey];simp[Instr.lookup,run_underlying hut,MapKept.run_getObj_map hb,c1,hr,hzv,Result.andThen]
    have run1: ∀j (en:MapEntry),(Instr.findKey kt (fG s) es.toList).run P w= .ok (some (j,en.val)) w→(Instr.lookup t (a.eval m) (a.eval k) false).run P w= .ok en.val w:=fun j en hr=>by
     rw[hme,hkey];simp[Instr.lookup,run_underlying hut,MapKept.run_getObj_map hb,c1,hr,Result.andThen]
    split at hl
    ·
     rename_i el hde hdz;obtain⟨hrow,hK⟩:=hl;have hnl:dH D s≠some .lent:=by intro e;rw[e]at hrow;simp[xO]at hrow
     obtain⟨hd,hh,hlen,hone⟩:=cO3 hM hnl;rcases hfind with⟨hr,_,hno⟩|⟨j,en,mv,hr,_,_,hget,hmv⟩
     ·
      have hnone:dH D s=none:=by
       cases hg:dH D s with
       |none=>rfl
       |some mv=>
        have:=hno mv hg;rw[hg]at hrow;cases mv<;>simp[xO,MV.there]at hrow this
      have hnil:=hM.nil s hd hh hnone;refine⟨_,_,hK,run0 hr,?_,by simpa[HV.men]using hmid⟩;have hz0:zve= .slice none 0 0:=by
       have hz:=htye.rep w (fun _=>False);have hag:=htye.agg;rw[hdz]at hz hag;simp only[RepC]at hz;rw[cells_single (by rw[hag];rfl)]at hz;simpa using hz
      rw[hz0,←hnil];exact uB hρ hh hlen hone
     ·
      refine⟨_,_,hK,run1 j en hr,?_,by simpa[HV.men]using hmid⟩;rw[hget]at hrow;cases mv with
      |row l=>
       simp only[RepMV]at hmv;rw[hmv]at hh;cases hh;exact uB hρ hmv hlen hone
      |_=>simp[xO]at hrow
    ·
     obtain⟨hval,hK⟩:=hl;rcases hfind with⟨hr,_,hno⟩|⟨j,en,mv,hr,_,_,hget,hmv⟩
     ·
      have hnone:dH D s=none:=by
       cases hg:dH D s with
       |none=>rfl
       |some mv=>
        have:=hno mv hg;rw[hg]at hval;cases mv<;>simp[qK,MV.there]at hval this
      refine⟨_,_,hK,run0 hr,?_,by simp[HV.men]⟩;rw[hnone];exact⟨by simp only[RepH,bC6];exact htye.rep w _,by simp only[bC6,HV.isAgg];rw[htye.agg]⟩
     ·
      refine⟨_,_,hK,run1 j en hr,?_,by simp[HV.men]⟩;rw[hget]at hval⊢;cases mv with
      |val cv=>
       obtain⟨cs,h1,h2⟩:=hmv;rw[h2];exact gB (v:= .c cv) (by simp only[RepH];exact h1) rfl (by simp[HV.sto])
      |_=>simp[qK]at hval
   · exact hl.elim
  · exact hl.elim
 · exact hl.elim
theorem cO4 {t kt et e:TypeId}{sz b:Nat}{D:MD}{hf:List UInt8→Option Value}{O:Nat→Prop}(hut:P.underlying t=some (.map kt et))(hkt:P.underlying kt=some .string)(hM:RepM w O e sz D b hf){s:List UInt8}(hs:s.length≤maxLen)
  {mv:MV} (hth:mv.there=true) (hrow:fU (some mv)=fU (dH D s)) (hnl:dH D s≠some .lent) (hml:mv≠ .lent) {val:Value} (hv:RepMV w O (hf s) mv val):
  ∃w',(Instr.mapUpdate t (.map (some b)) (fG s) val).run P w= .ok () w'∧(∀b',b'≠b→w'.heap[b']? =w.heap[b']?)∧w'.heap.size=w.heap.size∧w'.os=w.os∧w'.tape=w.tape∧w'.output=w.output∧
   ∀O',Stay w O w' O'→RepM w' O' e sz (qI D s mv) b hf:=by
 obtain⟨es,clock,hb,hst,h4,h5⟩:=hM.blk;obtain⟨c1,c2,c3,hfind⟩:=aN3 (P:=P) (w:=w) hkt h4 h5 hs;have fin: ∀es' clock',(Instr.mapUpdate t (.map (some b)) (fG s) val).run P w= .ok () (setBlock w b (.map es' clock'))→Go.MapKept.Stamped es' clock'→
   (∀x'∈es'.toList,(x'∈es.toList∧x'.key≠fG s)∨(x'.key=fG s∧x'.val=val))→(∀x∈es.toList,x.key≠fG s→x∈es'.toList)→(∃x∈es'.toList,x.key=fG s)→
   ∃w',(Instr.mapUpdate t (.map (some b)) (fG s) val).run P w= .ok () w'∧(∀b',b'≠b→w'.heap[b']? =w.heap[b']?)∧w'.heap.size=w.heap.size∧w'.os=w.os∧w'.tape=w.tape∧w'.output=w.output∧
   ∀O',Stay w O w' O'→RepM w' O' e sz (qI D s mv) b hf:=by
  intro es' clock' hrun hst' hwho hkeep hthere;refine⟨_,hrun,fun b' hb'=>heap_setBlock_other hb _ hb',by simp[setBlock],rfl,rfl,rfl,fun O' hS=>⟨⟨es',clock',heap_setBlock_same hb _,hst',fun x hx=>?_,fun k m hg ht=>?_⟩,fun k hd hk=>?_,fun k=>?_,fun k hd hk hn=>?_,hM.apart⟩⟩
  ·
   rcases hwho x hx with⟨h1,h2⟩|⟨h1,h2⟩
   · obtain⟨k,m,e1,e2,e3,e4⟩:=h4 x h1;have hne:k≠s:=fun e=>h2 (by rw[e2,e]);exact⟨k,m,by rw[cY _ _ hne];exact e1,e2,e3,e4.stay hS⟩
   · exact⟨s,mv,cX _ _ _,h1,hs,by rw[h2];exact hv.stay hS⟩
  ·
   by_cases hks:k=s
   · subst hks;exact hthere
   · rw[cY _ _ hks]at hg;obtain⟨x,hx,ek⟩:=h5 k m hg ht;exact⟨x,hkeep x hx (fun e=>hks (aM1 (ek.symm.trans e))),ek⟩
  ·
   obtain⟨g1,xs,g2,g3,g4⟩:=hM.row k hd hk;have hro:fU (dH (qI D s mv) k)=fU (dH D k):=by
    by_cases hks:k=s
    · subst hks;rw[cX];exact hrow
    · rw[cY _ _ hks]
   rw[hro];exact⟨g1,xs,g2.stay hS,g3,jR g4 (fun g hg=>heap_setBlock_other hb _ (fun e=>g1 (by rw[hg,e])))⟩
  ·
   by_cases hks:k=s
   ·
    subst hks;rw[cX,hM.lent];constructor
    · intro h;exact absurd h hnl
    · intro h;cases h;exact absurd rfl hml
   · rw[cY _ _ hks];exact hM.lent k
  ·
   by_cases hks:k=s
   · subst hks;rw[cX]at hn;cases hn
   · rw[cY _ _ hks]at hn;exact hM.nil k hd hk hn
 rcases hfind with⟨hr,h2,hno⟩|⟨j,e0,m,hr,h2,h3,hget,hmv⟩
 ·
  refine fin (es.push ⟨fG s,val,clock⟩) (clock+1) ?_ (Go.MapKept.stamped_push hst h2) (fun x hx=>?_) (fun x hx _=>by simp only[Array.toList_push,List.mem_append];exact .inl hx) ⟨⟨fG s,val,clock⟩,by simp,rfl⟩
  · simp[Instr.mapUpdate,run_underlying hut,MapKept.run_getObj_map hb,c2,hr,MapKept.run_setObj_map _ hb,Result.andThen,setBlock]
  ·
   simp only[Array.toList_push,List.mem_append,List.mem_singleton]at hx;rcases hx with hx|rfl
   · exact .inl ⟨hx,h2 x hx⟩
   · exact .inr ⟨rfl,rfl⟩
 ·
  have hj:es[j]? =some e0:=by simpa using h2
  have hjl:j<es.toList.length:=(List.getElem?_eq_some_iff.1 h2).1;have hlist:(es.modify j (fun e'=>{e' with key:=fG s,val:=val})).toList=es.toList.set j {e0 with key:=fG s,val:=val}:=by rw[Array.toList_modify,ChangeMaps.modify_eq_set _ _ _ _ h2]
  have hkeyf: ∀e',es[j]? =some e'→({e' with key:=fG s,val:=val}:MapEntry).key=e'.key:=fun e' he'=>by rw[hj]at he';cases he';exact h3.symm
  have hnd:=hst.2.2;have uniq: ∀i (x:MapEntry),es.toList[i]? =some x→x.key=fG s→i=j:=by
   intro i x hi hk;have hil:i<es.toList.length:=(List.getElem?_eq_some_iff.1 hi).1;have a1:(es.toList.map (·.key))[i]? =some (fG s):=by simp[hi,hk]
   have a2:(es.toList.map (·.key))[j]? =some (fG s):=by simp[h2,h3]
   rw[List.nodup_iff_pairwise_ne]at hnd;by_cases hlt:i<j
   · have:=(List.pairwise_iff_getElem.1 hnd) i j (by simpa using hil) (by simpa using hjl) hlt;rw[List.getElem?_eq_getElem (by simpa using hil)]at a1;rw[List.getElem?_eq_getElem (by simpa using hjl)]at a2;exact absurd (Option.some.inj a1|>.trans (Option.some.inj a2).symm) this
   ·
    by_cases hgt:j<i
    · have:=(List.pairwise_iff_getElem.1 hnd) j i (by simpa using hjl) (by simpa using hil) hgt;rw[List.getElem?_eq_getElem (by simpa using hil)]at a1;rw[List.getElem?_eq_getElem (by simpa using hjl)]at a2;exact absurd (Option.some.inj a2|>.trans (Option.some.inj a1).symm) this
    · omega
  refine fin (es.modify j (fun e'=>{e' with key:=fG s,val:=val})) clock ?_ (Go.MapKept.stamped_modify hst _ _ (fun _ _=>rfl) (fun e' _ he'=>hkeyf e' he')) (fun x hx=>?_) (fun x hx hne=>?_) ⟨_,by rw[hlist];exact List.mem_set hjl _,rfl⟩
  · simp[Instr.mapUpdate,run_underlying hut,MapKept.run_getObj_map hb,c2,hr,hj,h3,c3,MapKept.run_setObj_map _ hb,Result.andThen,setBlock]
  ·
   rw[hlist]at hx;obtain⟨i,hi,ex⟩:=List.getElem_of_mem hx;rw[List.getElem_set]at ex;split at ex
   · exact .inr ⟨by rw[←ex],by rw[←ex]⟩
   ·
    rename_i hne;have hi':i<es.toList.length:=by simpa using hi
    refine .inl ⟨ex▸List.getElem_mem hi',fun hk=>hne (uniq i x (by rw[List.getElem?_eq_getElem hi',ex]) hk).symm⟩
  ·
   rw[hlist];obtain⟨i,hi,ex⟩:=List.getElem_of_mem hx;have hij:j≠i:=by
    intro e;subst e;rw[List.getElem?_eq_getElem hi,ex]at h2;cases h2;exact hne h3
   have:(es.toList.set j {e0 with key:=fG s,val:=val})[i]? =some x:=by
    rw[List.getElem?_set_ne hij,List.getElem?_eq_getElem hi,ex]
   exact List.mem_of_getElem? this
theorem wR (h:RepA' c M fr ob a w ρ){t:TypeId}{m k v:Operand}{K:HV→Ob→Prop}(hl:hmapUpdate P t (ev fr m) (ev fr k) (ev fr v) ob K):
  ∃ob' w',K .junk ob'∧(Instr.mapUpdate t (a.eval m) (a.eval k) (a.eval v)).run P w= .ok () w'∧ ∀(d:Option Nat) (z:Value),(∀k,d=some k→k<c.n)→RepA' c M (updo fr d .junk) ob' (a.put d z) w' ρ:=by
 unfold hmapUpdate at hl;rw[aC]at hl;obtain⟨ti,ht,hl⟩:=hl;split at hl
 ·
  rename_i kt et hdt;rw[aC]at hl;obtain⟨tk,htk,hl⟩:=hl;rw[aC]at hl;obtain⟨te,hte,hl⟩:=hl;split at hl
  ·
   rename_i id s hkd hm hk;obtain⟨hs,hl⟩:=hl;split at hl
   ·
    rename_i e sz D ho;obtain⟨hut,hkt⟩:=cN0 ht hdt htk hkd;obtain⟨b,hf,hρ,hme,hM⟩:=bC7 h hm ho;have hkey:a.eval k=fG s:=lM h hk;rw[hme,hkey];have go: ∀mv:MV,mv.there=true→fU (some mv)=fU (dH D s)→dH D s≠some .lent→mv≠ .lent→RepMV w (Owned ρ c.X) (hf s) mv (a.eval v)→K .junk (upd ob id (some (.mp e sz (qI D s mv))))→
      ∃ob' w',K .junk ob'∧(Instr.mapUpdate t (.map (some b)) (fG s) (a.eval v)).run P w= .ok () w'∧ ∀(d:Option Nat) (z:Value),(∀k,d=some k→k<c.n)→RepA' c M (updo fr d .junk) ob' (a.put d z) w' ρ:=by
     intro mv g1 g2 g3 g4 g5 hK;obtain⟨w',hrun,q1,q2,q3,q4,q5,q6⟩:=cO4 (P:=P) hut hkt hM hs g1 g2 g3 g4 g5;exact⟨_,w',hK,hrun,fun d z hd=>h.setObj (b0:=b) hρ (.inl rfl) (h.mo id _ ho).1 q1 q2 q3 q4 q5 (fun hst=>⟨b,hf,hρ,q6 _ hst⟩) trivial (fun _=> .inl rfl) (by simp[HV.men]) hd⟩
    split at hl
    ·
     rename_i el id2 s2 n hde hvv;obtain⟨⟨rfl,rfl,hn,hrow⟩,hK⟩:=hl;have hnl:dH D s2≠some .lent:=by intro e;rw[e]at hrow;simp[aI1]at hrow
     obtain⟨hd,hh,hlen,hone⟩:=cO3 hM hnl;refine go _ rfl rfl hnl (by simp) ?_ hK;simp only[RepMV];rw[hh,bC8 h hvv hρ hh (by rw[hlen,hn])]
    ·
     rename_i cv _ _ hvv;obtain⟨hval,hK⟩:=hl;have hnl:dH D s≠some .lent:=by intro e;rw[e]at hval;simp[qK]at hval
     refine go _ rfl ?_ hnl (by simp) ?_ hK
     ·
      cases hg:dH D s with
      |none=>rfl
      |some mv=>rw[hg]at hval;cases mv<;>simp[qK]at hval;rfl
     · have hr:=h.ev v (by rw[hvv];simp);rw[hvv]at hr;refine⟨_,by simpa only[RepH]using hr.1,?_⟩;exact(lB _ _ hr.2.symm).symm
    · exact hl.elim
   · exact hl.elim
  · exact hl.elim
 · exact hl.elim
theorem zX (h:RepA' c M fr ob a w ρ){nid:Nat}(hn: ¬M nid)(hM: ∀i,M i→M' i)(hM':M' nid){t:TypeId}{K:HV→Ob→Prop}(hl:hmakeMap P t nid ob K)(d:Option Nat)(hd: ∀k,d=some k→k<c.n):
  ∃v ob' y w' ρ',K v ob'∧(Instr.makeMap t none).run P w= .ok y w'∧RepA' c M' (updo fr d v) ob' (a.put d y) w' ρ':=by
 unfold hmakeMap at hl;rw[aC]at hl;obtain⟨ti,ht,hl⟩:=hl;have go: ∀e sz,K (.mapr nid) (upd ob nid (some (.mp e sz [])))→ ∃v ob' y w' ρ',K v ob'∧(Instr.makeMap t none).run P w= .ok y w'∧RepA' c M' (updo fr d v) ob' (a.put d y) w' ρ':=by
  intro e sz hK;refine⟨_,_,.map (some w.heap.size),w.alloc (.map #[] 0),_,hK,rfl,h.newObj (w1:=w) (L:= .mp w.heap.size (fun _=>some (.slice none 0 0))) hn hM hM' rfl rfl rfl rfl ?_ (fun hst=>?_) trivial (.inr ?_) (by simpa[HV.men]using hM') hd⟩
  ·
   rintro b (hb|⟨k,v,e1,e2⟩)
   · exact hb
   · cases e1;simp[Value.ownBlock]at e2
  · refine⟨_,_,aT _ _ _,⟨⟨#[],0,heap_alloc_new w _,by simp[MapKept.Stamped],by simp,by simp[dH]⟩,fun k v hk=>?_,fun k=>by simp[dH],fun k v hk _=>by cases hk;rfl,fun k k' v v' g e1 _ e3 _=>by cases e1;simp[Value.ownBlock]at e3⟩⟩;cases hk;exact⟨by simp[Value.ownBlock],[],by simp[dH,fU,RepL],by simp[dH,fU],by simp only[dH,fU];exact World.ownsRow_nil _ 0 e sz⟩
  · refine dC ?_ rfl rfl;simp only[RepH];refine⟨_,rfl,by simp[Value.oneCell'],fun b hf hρ=>?_⟩;rw[aT]at hρ;cases hρ;rfl
 split at hl
 ·
  rw[aC]at hl;obtain⟨te,hte,hl⟩:=hl;split at hl
  · rw[aC]at hl;obtain⟨t2,ht2,hl⟩:=hl;exact go _ _ hl
  · exact go _ _ hl
 · exact hl.elim
theorem zY (h:RepA' c M fr ob a w ρ){nid:Nat}(hn: ¬M nid)(hM: ∀i,M i→M' i)(hM':M' nid){t ty:TypeId}{s x:Operand}{K:HV→Ob→Prop}
  (hl:happend2 P t (ev fr s) (ev fr x) nid ob K) (d:Option Nat) (hd: ∀k,d=some k→k<c.n):
  ∃v ob' y w' ρ',K v ob'∧(Builtin.append_ #[t,t] ty #[a.eval s,a.eval x]).run P w= .ok y w'∧RepA' c M' (updo fr d v) ob' (a.put d y) w' ρ':=by
 unfold happend2 at hl;split at hl
 ·
  rename_i id k n hs;rw[aC]at hl;obtain⟨ti,ht,hl⟩:=hl;obtain⟨i0,d0,zv0,hty⟩:=bB ht;split at hl
  ·
   rename_i e hde;rw[aC]at hl;obtain⟨te,hte,hl⟩:=hl;obtain⟨ie,de,zve,htye⟩:=bB hte;rw[aC]at hl;obtain⟨l2,hx,hc2,hl⟩:=hl;have hdd:=hty.d_;rw[hde]at hdd;have hu:P.underlying t=some (.slice e):=by
    rw[hty.under];congr 1;cases d0<;>simp[tyd]at hdd;rw[hdd]
   obtain⟨ad,m,cp,news,he,hm,hrl,hnone,hcells,_,_⟩:=jE h hx;have hnl:news.length=m*ie.size:=by rw[dU hrl hc2,hm,htye.size]
   have hzs:zve.cells.size=ie.size:=by rw[htye.zsize,htye.size]
   split at hl
   ·
    rename_i e' sz D ho;obtain⟨⟨hrow,hnn,rfl,rfl⟩,hb,hmx,hK⟩:=hl;have hlent:dH D k≠some .lent:=by intro e;rw[e]at hrow;simp[aI1]at hrow
    obtain⟨b,hf,hρ,hRM⟩:=h.s.objs id _ ho;obtain⟨hdv,hfk,hlen,hone⟩:=cO3 hRM hlent;obtain⟨hnb,xs,hl1,hcs,how⟩:=hRM.row k hdv hfk;have hse:a.eval s=hdv:=bC8 h hs hρ hfk (by rw[hlen,hnn]);obtain⟨es,clock,hbk,hst0,h4,h5⟩:=hRM.blk;have hbs:b<w.heap.size:=(Array.getElem?_eq_some_iff.1 hbk).1;rw[←htye.size]at how;generalize hL:fU (dH D k)=l at*;obtain⟨v',w',hrun,how',hgr,hblk,hm0⟩:=jT (P:=P) (ty:=ty) hu htye.info htye.zero hzs hdv l.length xs how ad m cp news hnl hnone hcells (jK hrl) (by rw[hm];exact hmx) (by rw[hm,htye.bytes];exact hb);have hlv:Hl.hlen v'=l.length+m:=ownsRow_size how';have hone':v'.oneCell'=true:=by rcases how'.2 with⟨rfl,_⟩|⟨g,cap,cur,rfl,_⟩<;>simp[Value.oneCell']
    let hf':List UInt8→Option Value:=fun k'=>if k'=k then some v' else hf k'
    let ρ':Env:=upd ρ id (some (.mp b hf'))
    have hf'k:hf' k=some v':=if_pos rfl;have hf'o: ∀k',k'≠k→hf' k'=hf k':=fun k' hk=>if_neg hk;have hmid:=(h.mo id _ ho).1;have hv'b: ∀g,v'.ownBlock=some g→hdv.ownBlock=some g∨g=w.heap.size:=fun g hg=>by
     rcases hblk with e|e
     · exact .inl (by rw[←e];exact hg)
     · rw[e]at hg;cases hg;exact .inr rfl
    have hown: ∀b',Own ρ' b'→Own ρ b'∨w.heap.size≤b':=by
     rintro b' ⟨i,L,h1,h2⟩;by_cases ei:i=id
     ·
      subst ei;simp only[ρ',aT]at h1;cases h1;rcases h2 with rfl|⟨k',v2,e1,e2⟩
      · exact .inl ⟨i,_,hρ,.inl rfl⟩
      ·
       by_cases hk:k'=k
       ·
        subst hk;rw[hf'k]at e1;cases e1;rcases hv'b _ e2 with h3|h3
        · exact .inl ⟨i,_,hρ,.inr ⟨k',hdv,hfk,h3⟩⟩
        · exact .inr (by omega)
       · rw[hf'o _ hk]at e1;exact .inl ⟨i,_,hρ,.inr ⟨k',v2,e1,e2⟩⟩
     · simp only[ρ',aY _ _ ei]at h1;exact .inl ⟨i,L,h1,h2⟩
    have hs2:Stay2 w (Own ρ) w' (Own ρ'):=
     ⟨fun b' hb' hO=>hgr.block b' hb' (fun e=>hO ⟨id,_,hρ,.inr ⟨k,hdv,hfk,e.symm⟩⟩),hown,hgr.size,hgr.os,hgr.tape,hgr.output⟩
    have hmv:Moves M ρ ρ':=by
     intro i L' hmi h1;by_cases ei:i=id
     ·
      subst ei;simp only[ρ',aT]at h1;cases h1;refine⟨_,hρ,.inr (.inr ⟨_,_,_,rfl,rfl,fun k' h' hk'=>?_⟩)⟩;by_cases hk:k'=k
      ·
       subst hk;rw[hf'k]at hk';cases hk';refine⟨hdv,hfk,?_⟩;by_cases hm':m=0
       · exact .inl (hm0 hm').1.symm
       · exact .inr (by omega)
      · rw[hf'o _ hk]at hk';exact⟨h',hk',.inl rfl⟩
     · simp only[ρ',aY _ _ ei]at h1;exact⟨L',h1,.inl rfl⟩
    have hst:=hs2.stay c.X;have keyb: ∀i L2 b',i≠id→ρ i=some L2→L2.has b'→(Loc.mp b hf').has b'→False:=by
     rintro i L2 b' hne h2 h3 (h4|⟨k',v2,e1,e2⟩)
     · exact hne (h.s.apart i id _ _ b' h2 hρ h3 (.inl h4))
     ·
      by_cases hk:k'=k
      ·
       subst hk;rw[hf'k]at e1;cases e1;rcases hv'b _ e2 with h5|h5
       · exact hne (h.s.apart i id _ _ b' h2 hρ h3 (.inr ⟨k',hdv,hfk,h5⟩))
       · have:=Owned.lt h.s h2 h3;omega
      · rw[hf'o _ hk]at e1;exact hne (h.s.apart i id _ _ b' h2 hρ h3 (.inr ⟨k',v2,e1,e2⟩))
    have hRM':RepM w' (Owned ρ' c.X) e' te.size (qI D k (.pend (l++l2))) b hf':=by
     have hbk':w'.heap[b]? =w.heap[b]? :=hgr.block b hbs (fun e=>hnb e.symm);refine⟨⟨es,clock,by rw[hbk'];exact hbk,hst0,fun y hy=>?_,fun k' m' hg ht'=>?_⟩,fun k' h' hk'=>?_,fun k'=>?_,fun k' h' hk' hn'=>?_,fun k1 k2 v1 v2 g e1 e2 e3 e4=>?_⟩
     ·
      obtain⟨k',m',e1,e2,e3,e4⟩:=h4 y hy;by_cases hk:k'=k
      · subst hk;exact⟨k',_,cX _ _ _,e2,e3,trivial⟩
      · exact⟨k',m',by rw[cY _ _ hk];exact e1,e2,e3,by rw[hf'o _ hk];exact e4.stay hst⟩
     ·
      by_cases hk:k'=k
      · subst hk;rw[cX]at hg;cases hg;simp[MV.there]at ht'
      · rw[cY _ _ hk]at hg;exact h5 k' m' hg ht'
     ·
      by_cases hk:k'=k
      ·
       subst hk;rw[hf'k]at hk';cases hk';refine⟨fun e=>?_,xs++news,?_,?_,?_⟩
       ·
        rcases hv'b _ e with h3|h3
        · exact hnb h3
        · omega
       · rw[cX];exact dY.2 ⟨xs,news,rfl,hl1.stay hst,hrl.stay hst⟩
       ·
        rw[cX];intro v hv;rcases List.mem_append.1 hv with hv|hv
        · exact hcs v hv
        · exact hc2 v hv
       · rw[cX];simp only[fU];rw[List.length_append,←hm,←htye.size];exact how'
      · rw[hf'o _ hk]at hk';rw[cY _ _ hk];obtain⟨q1,ys,q2,q3,q4⟩:=hRM.row k' h' hk';refine⟨q1,ys,q2.stay hst,q3,jR q4 (fun g hg=>hgr.block g (q4.lt g hg).2 (fun e=>hk (hRM.apart k' k h' hdv g hk' hfk hg e.symm)))⟩
     ·
      by_cases hk:k'=k
      · subst hk;rw[hf'k,cX];simp
      · rw[hf'o _ hk,cY _ _ hk];exact hRM.lent k'
     ·
      by_cases hk:k'=k
      · subst hk;rw[cX]at hn';cases hn'
      · rw[hf'o _ hk]at hk';rw[cY _ _ hk]at hn';exact hRM.nil k' h' hk' hn'
     ·
      by_cases hk1:k1=k<;>by_cases hk2:k2=k
      · rw[hk1,hk2]
      ·
       subst hk1;rw[hf'k]at e1;cases e1;rw[hf'o _ hk2]at e2;rcases hv'b _ e3 with h3|h3
       · exact hRM.apart _ _ _ _ g hfk e2 h3 e4
       · obtain⟨_,_,_,_,q4⟩:=hRM.row k2 v2 e2;have:=(q4.lt g e4).2;omega
      ·
       subst hk2;rw[hf'k]at e2;cases e2;rw[hf'o _ hk1]at e1;rcases hv'b _ e4 with h3|h3
       · exact hRM.apart _ _ _ _ g e1 hfk e3 h3
       · obtain⟨_,_,_,_,q4⟩:=hRM.row k1 v1 e1;have:=(q4.lt g e3).2;omega
      · rw[hf'o _ hk1]at e1;rw[hf'o _ hk2]at e2;exact hRM.apart _ _ _ _ g e1 e2 e3 e4
    refine⟨_,_,_,_,ρ',hK,by rw[hse,he];exact hrun,h.step hM hs2 hmv ⟨fun i o' ho'=>?_,fun i hi=>?_,fun i i' L L' b' h1 h2 h3 h4=>?_,fun i L b' h1 h2=>?_⟩ (.inr ?_) (by simpa[HV.men]using hM _ hmid) (fun i o' ho'=>?_) hd⟩
    ·
     by_cases ei:i=id
     · subst ei;rw[aT]at ho';cases ho';exact⟨b,hf',aT _ _ _,hRM'⟩
     · rw[aY _ _ ei]at ho';refine RepO.stay hst hmv (h.mo i o' ho').2 (aY _ _ ei) (fun L b' h1 h2=>?_) (h.s.objs i o' ho');exact hgr.block b' (Owned.lt h.s h1 h2) (fun e=>ei (h.s.apart i id _ _ b' h1 hρ h2 (.inr ⟨k,hdv,hfk,e.symm⟩)))
    ·
     by_cases ei:i=id
     · subst ei;rw[aT]at hi;cases hi
     · rw[aY _ _ ei]at hi;simp only[ρ',aY _ _ ei];exact h.s.none i hi
    ·
     by_cases e1:i=id<;>by_cases e2:i'=id
     · rw[e1,e2]
     · subst e1;simp only[ρ',aT]at h1;cases h1;simp only[ρ',aY _ _ e2]at h2;exact(keyb i' L' b' e2 h2 h4 h3).elim
     · subst e2;simp only[ρ',aT]at h2;cases h2;simp only[ρ',aY _ _ e1]at h1;exact(keyb i L b' e1 h1 h3 h4).elim
     · simp only[ρ',aY _ _ e1]at h1;simp only[ρ',aY _ _ e2]at h2;exact h.s.apart i i' L L' b' h1 h2 h3 h4
    ·
     by_cases e1:i=id
     ·
      subst e1;simp only[ρ',aT]at h1;cases h1;intro hX;rcases h2 with rfl|⟨k',v2,e1,e2⟩
      · exact h.s.xb i _ _ hρ (.inl rfl) hX
      ·
       by_cases hk:k'=k
       ·
        subst hk;rw[hf'k]at e1;cases e1;rcases hv'b _ e2 with h5|h5
        · exact h.s.xb i _ _ hρ (.inr ⟨k',hdv,hfk,h5⟩) hX
        · have:=Nat.lt_of_lt_of_le (h.xlt _ hX) h.base.size;omega
       · rw[hf'o _ hk]at e1;exact h.s.xb i _ _ hρ (.inr ⟨k',v2,e1,e2⟩) hX
     · simp only[ρ',aY _ _ e1]at h1;exact h.s.xb i L b' h1 h2
    · exact uB (aT _ _ _) hf'k (by rw[hlv,List.length_append,hm]) hone'
    ·
     by_cases ei:i=id
     · subst ei;rw[aT]at ho';cases ho';exact⟨hM _ hmid,trivial⟩
     ·
      rw[aY _ _ ei]at ho';obtain⟨h1,h2⟩:=h.mo i o' ho';refine⟨hM _ h1,?_⟩;cases o' with
      |box t v=>exact HV.men_mono hM h2
      |row _ _ _=>trivial
      |mp _ _ _=>trivial
      |dead=>trivial
      |tab _=>trivial
      |hrow _ _ _=>exact HV.menL_mono hM h2
      |raw _ _=>trivial
      |it _ _ _ _=>exact hM _ h2
   · exact hl.elim
  · exact hl.elim
 · exact aH9 h hn hM hM' hl d hd
end
end Go.Hl
