/- Part of a proof: walks of functions of the program, by contracts, and the rules they use. By an AI agent. -/
import Derived.Test.YtlldglbooaefhaaGreatDoorHlTlaw
import Derived.Test.YtlldglbooaefhaaGreatDoorPl11
import Derived.Test.YtlldglbooaefhaaGreatDoorHlIt
import Derived.Test.YtlldglbooaefhaaGreatDoorHlZb
set_option linter.unusedSimpArgs false
set_option linter.unusedVariables false
set_option linter.defProp false
namespace Go.Proofs.YtlldglbooaefhaaGreatDoor
open Go Go.Hl Go.Pl
def rI :=(And.intro (And.intro (And.intro @rpost_exit (And.intro @rpost_normal @rpost_ret)) (And.intro @hscope_exit (And.intro @hscope_normal @hscope_ret))) (And.intro (And.intro @ithen_normal (And.intro @ithen_exit @ithen_ret)) (And.intro @iblk_normal (And.intro @iblk_exit @iblk_ret))))
section
variable {n k nx i:Nat}{ops:Array Oper}{o:Oper}{g:Option (Nat×Bool)}{fr fr':Fr}{ob ob':Ob}
theorem T0 {a b:Prop}(h:b)(e:b→a:=by intro h;simp only[↓sP,sA,tyS,simprocAttr];(repeat refine AI ?_);exact h):a:=e h
theorem T2 {a b:Prop}(h:b)(e:b→a:=by intro h;simp only[sE,↓reduceIte,simprocAttr];(repeat refine AI ?_);exact h):a:=e h
theorem AX {a b:Prop}(h:b)(e:b→a:=by intro h;(repeat refine AI ?_);exact h):a:=e h
theorem fF {l:List (Nat×HV)}{h:List (Nat×HO)}{nx2:Nat}(hk:k≤nx2:=by omega)(h1:aS nx2 fr l:=by simp[aS,fin_at,finA_at,upd_at,HV.men,HV.menL,HV.norm,HV.toC,HV.toCL])
    (h2:aT nx2 ob h:=by simp[aT,fob_at,upd_at,none0_at,bL,HO.men,HV.men,HV.menL,HV.norm,HV.toC,HV.toCL]):Fits k fr ob (fin l) (fob h) nx2:=aL hk h1 h2
theorem Rg {id:Nat}{b:Prop}{Q:eF}(h:b)(hd:iH n ops=true:=by kernel_rfl)
    (e:b→hlex Tryz.prog ops nx (fun fr' ob'=>Q .normal fr' ob' (nx+4*ops.size)) (List.range ops.size) fr ob:=by intro h;simp only[sR,simprocAttr];exact h):Hw Tryz.prog n k (.region id ops false) Q fr ob nx:=aN hd (e h)
theorem jB (i:Nat)(h:(i:Int)<9223372036854775807:=by omega):IntKind.i64.wrap ((i:Int)+1)=(i:Int)+1:=IntWalk.i64_in _ ⟨by omega,by omega⟩
theorem R0 {id nx':Nat}{c2:Code}{Q:eF}(h:Hw Tryz.prog n k c2 Q fr' ob' nx')(hd:iH n ops=true:=by kernel_rfl)
    (e: ∀K:Fr→Ob→Nat→Prop,K fr' ob' nx'→hlex Tryz.prog ops nx (fun fr' ob'=>hthen K Q .normal fr' ob' (nx+4*ops.size)) (List.range ops.size) fr ob:=by intro K h;simp only[↓sP,sA,tyS,simprocAttr];(repeat refine AI ?_);exact h):
    Hw Tryz.prog n k (.seq (.region id ops false) c2) Q fr ob nx:=aC fun K hK=>aN hd (e K (hK _ _ _ h))
section
variable {Q:Fr→Ob→Prop}
theorem S0 {l:List Nat}(h:hlex Tryz.prog ops nx Q l fr' ob')(ho:ops[i]? =some o:=by exact rfl)(hg:gd ops o=some g:=by exact rfl)
    (e: ∀K:Fr→Ob→Prop,K fr' ob'→hop1 Tryz.prog (nx+4*i) [] g o.op o.dst K fr ob:=by intro K h;simp only[sH,↓sP,sA,tyS,simprocAttr];(repeat refine AI ?_);exact h):hlex Tryz.prog ops nx Q (i::l) fr ob:=
  bE ho hg fun K hK=>e K (hK _ _ h)
theorem SG0 {l:List Nat}(h:hlexG Tryz.prog ops nx Q l fr' ob')(ho:ops[i]? =some o:=by exact rfl)(hg:gd ops o=some g:=by exact rfl)
    (e: ∀K:Fr→Ob→Prop,K fr' ob'→hop1 Tryz.prog (nx+4*i) [] g o.op o.dst K fr ob:=by intro K h;simp only[sH,↓sP,sA,tyS,simprocAttr];(repeat refine AI ?_);exact h):hlexG Tryz.prog ops nx Q (i::l) fr ob:=
  bM ho hg fun K hK=>e K (hK _ _ h)
variable {cr rd:List Nat}{l:nD}{C:jK}
theorem W0 (h:hwalk2 Tryz.prog ops nx Q l (if isEff o.op=true then C else(i,if hgd g fr=some true then touch o.op (ev fr)else [])::C) fr' ob')(ho:ops[i]? =some o:=by exact rfl)(hg:gd ops o=some g:=by exact rfl)
    (e: ∀K:Fr→Ob→Prop,K fr' ob'→hop1 Tryz.prog (nx+4*i) (cr.flatMap (ids4 nx)++rd.flatMap (getF C)) g o.op o.dst K fr ob:=by intro K h;simp only[sH,↓sP,sA,tyS,simprocAttr];(repeat refine AI ?_);exact h):hwalk2 Tryz.prog ops nx Q ((i,cr,rd)::l) C fr ob:=
  cE ho hg fun K hK=>e K (hK _ _ h)
theorem WG0 (h:hwalk2G Tryz.prog ops nx Q l (if isEff o.op=true then C else(i,if hgd g fr=some true then touch o.op (ev fr)else [])::C) fr' ob')(ho:ops[i]? =some o:=by exact rfl)(hg:gd ops o=some g:=by exact rfl)
    (e: ∀K:Fr→Ob→Prop,K fr' ob'→hop1 Tryz.prog (nx+4*i) (cr.flatMap (ids4 nx)++rd.flatMap (getF C)) g o.op o.dst K fr ob:=by intro K h;simp only[sH,↓sP,sA,tyS,simprocAttr];(repeat refine AI ?_);exact h):hwalk2G Tryz.prog ops nx Q ((i,cr,rd)::l) C fr ob:=
  cG ho hg fun K hK=>e K (hK _ _ h)
end
theorem nM {α:Type}{l:List α}{i:Nat}(h:i<l.length)(f:α→CV):nth (l.map f) i=f l[i]:=bH h
theorem aI {a b:Prop}(x:a)(y:b):a∧b:=⟨x,y⟩
theorem TQ {a b q:Prop}(r:q)(h:b)(e:q→b→a:=by intro r h;simp only[↓sP,sA,tyS,simprocAttr,r];exact h):a:=e r h
theorem T6 {a b:Prop}(h:b)(e:b→a:=by intro h;simp only[sH,↓sP,sA,tyS,simprocAttr,F];exact h):a:=e h
section
variable {Q:Fr→Ob→Prop}
theorem SF {l:List Nat}(h:hlex Tryz.prog ops nx Q l fr' ob')(ho:ops[i]? =some o:=by exact rfl)(hg:gd ops o=some g:=by exact rfl)
    (e: ∀K:Fr→Ob→Prop,K fr' ob'→hop1 Tryz.prog (nx+4*i) [] g o.op o.dst K fr ob:=by intro K h;simp only[sH,↓sP,sA,tyS,simprocAttr,F];(repeat refine AI ?_);exact h):hlex Tryz.prog ops nx Q (i::l) fr ob:=
  bE ho hg fun K hK=>e K (hK _ _ h)
variable {cr rd:List Nat}{l:nD}{C:jK}
theorem WF (h:hwalk2 Tryz.prog ops nx Q l (if isEff o.op=true then C else(i,if hgd g fr=some true then touch o.op (ev fr)else [])::C) fr' ob')(ho:ops[i]? =some o:=by exact rfl)(hg:gd ops o=some g:=by exact rfl)
    (e: ∀K:Fr→Ob→Prop,K fr' ob'→hop1 Tryz.prog (nx+4*i) (cr.flatMap (ids4 nx)++rd.flatMap (getF C)) g o.op o.dst K fr ob:=by intro K h;simp only[sH,↓sP,sA,tyS,simprocAttr,F];(repeat refine AI ?_);exact h):hwalk2 Tryz.prog ops nx Q ((i,cr,rd)::l) C fr ob:=
  cE ho hg fun K hK=>e K (hK _ _ h)
theorem WGF (h:hwalk2G Tryz.prog ops nx Q l (if isEff o.op=true then C else(i,if hgd g fr=some true then touch o.op (ev fr)else [])::C) fr' ob')(ho:ops[i]? =some o:=by exact rfl)(hg:gd ops o=some g:=by exact rfl)
    (e: ∀K:Fr→Ob→Prop,K fr' ob'→hop1 Tryz.prog (nx+4*i) (cr.flatMap (ids4 nx)++rd.flatMap (getF C)) g o.op o.dst K fr ob:=by intro K h;simp only[sH,↓sP,sA,tyS,simprocAttr,F];(repeat refine AI ?_);exact h):hwalk2G Tryz.prog ops nx Q ((i,cr,rd)::l) C fr ob:=
  cG ho hg fun K hK=>e K (hK _ _ h)
end
section
variable {Q:Fr→Ob→Prop}
theorem SGF {l:List Nat}(h:hlexG Tryz.prog ops nx Q l fr' ob')(ho:ops[i]? =some o:=by exact rfl)(hg:gd ops o=some g:=by exact rfl)
    (e: ∀K:Fr→Ob→Prop,K fr' ob'→hop1 Tryz.prog (nx+4*i) [] g o.op o.dst K fr ob:=by intro K h;simp only[sH,↓sP,sA,tyS,simprocAttr,F];(repeat refine AI ?_);exact h):hlexG Tryz.prog ops nx Q (i::l) fr ob:=
  bM ho hg fun K hK=>e K (hK _ _ h)
end
theorem RF {id nx':Nat}{c2:Code}{Q:eF}(h:Hw Tryz.prog n k c2 Q fr' ob' nx')(hd:iH n ops=true:=by kernel_rfl)
    (e: ∀K:Fr→Ob→Nat→Prop,K fr' ob' nx'→hlex Tryz.prog ops nx (fun fr' ob'=>hthen K Q .normal fr' ob' (nx+4*ops.size)) (List.range ops.size) fr ob:=by intro K h;simp only[↓sP,sA,tyS,simprocAttr,F];(repeat refine AI ?_);exact h):
    Hw Tryz.prog n k (.seq (.region id ops false) c2) Q fr ob nx:=aC fun K hK=>aN hd (e K (hK _ _ _ h))
theorem RT {a b:Prop}{x y:Array ResultVar}(r:x=y)(h:b)(e:x=y→b→a:=by intro r h;simp only[gR,r,fW,gQ,fH,↓sP,sA,tyS,simprocAttr];exact h):a:=e r h
theorem T3 {a b:Prop}(h:b)(e:b→a:=by intro h;simp only[↓sP,sA,tyS,simprocAttr];exact h):a:=e h
theorem T4 {a b:Prop}(h:b)(e:b→a:=by intro h;simp only[sE,↓reduceIte,simprocAttr];exact h):a:=e h
theorem T5 {a b:Prop}(h:b)(e:b→a:=by intro h;simp only[sH,↓sP,sA,tyS,simprocAttr];exact h):a:=e h
theorem CT {x y:Code}{o:Operand}{Q:eF}(hb:ev fr o= .c (.bool true))(h:Hw Tryz.prog n k x Q fr ob nx):Hw Tryz.prog n k (.cond o x y) Q fr ob nx:=aG hb (fun _=>h) (fun hb=>by cases hb)
theorem CF {x y:Code}{o:Operand}{Q:eF}(hb:ev fr o= .c (.bool false))(h:Hw Tryz.prog n k y Q fr ob nx):Hw Tryz.prog n k (.cond o x y) Q fr ob nx:=aG hb (fun hb=>by cases hb) (fun _=>h)
theorem FW {P:Program}{f:FuncId}{fn:Func}{code:Code}{args:List HV}{R:HV→Ob→Prop}(hf:P.funcs[f]? =some fn)(h:Hw P fn.ntmps k code (gR P fn.results.toList k R) (qE 0 args) ob k)(hb:fn.body=some code:=by exact rfl)
    (hok:eQ P f=true:=by kernel_rfl) (hloc:LocOk k args ob:=by exact jF _) (hn:args.length≤fn.ntmps:=by exact Nat.le_of_ble_eq_true rfl):HFn P f args k ob R:=bT hf hb hok hloc hn h
theorem QW {id:Nat}{Q:eF}(h:hlex Tryz.prog ops nx (fun fr' ob'=>Q .normal fr' ob' (nx+4*ops.size)) (List.range ops.size) fr ob)(hd:iH n ops=true:=by kernel_rfl)(hp:jM ops (List.range ops.size) (Array.replicate ops.size false)=true:=by kernel_rfl)
    (hq:ops.all (fun o=>bP o.op)=true:=by kernel_rfl):Hw Tryz.prog n k (.region id ops true) Q fr ob nx:=aJ0 mixed hd hp hq h
theorem QR {id:Nat}{b:Prop}{Q:eF}(h:b)(hd:iH n ops=true:=by kernel_rfl)(hp:jM ops (List.range ops.size) (Array.replicate ops.size false)=true:=by kernel_rfl)(hq:ops.all (fun o=>bP o.op)=true:=by kernel_rfl)
    (e:b→hlex Tryz.prog ops nx (fun fr' ob'=>Q .normal fr' ob' (nx+4*ops.size)) (List.range ops.size) fr ob:=by intro h;simp only[sR,simprocAttr];exact h):Hw Tryz.prog n k (.region id ops true) Q fr ob nx:=aJ0 mixed hd hp hq (e h)
theorem DW {id:Nat}{Q:eF}(plan:nD)(ms:List Nat)(h:hwalk2 Tryz.prog ops nx (fun fr' ob'=>Q .normal fr' ob' (nx+4*ops.size)) plan [] fr ob)(hd:iH n ops=true:=by kernel_rfl)(hp:jM ops (plan.map (·.1)) (Array.replicate ops.size false)=true:=by kernel_rfl)
    (hw1:aI7 ops ms=true:=by kernel_rfl) (hw2:ms.all (fun m=>decide (m<2^ms.length))=true:=by kernel_rfl) (hl:plan.length=ops.size:=by exact rfl) (hc:chk ops (aD0 ms) plan []=true:=by kernel_rfl):Hw Tryz.prog n k (.region id ops true) Q fr ob nx:=
  bJ6 mixed plan ms hd hp hw1 hw2 hl hc h
theorem HS {l:List Nat}{Q:Fr→Ob→Prop}(ho:ops[i]? =some o)(hg:gd ops o=some none)(h: ∀K:Fr→Ob→Prop,(∀fr ob,hlex Tryz.prog ops nx Q l fr ob→K fr ob)→hop1 Tryz.prog (nx+4*i) [] none o.op o.dst K fr ob):hlex Tryz.prog ops nx Q (i::l) fr ob:=bE ho hg h
section
variable {P:Program}{av:List Nat}{f:FuncId}{nid:Nat}{K:HV→Ob→Prop}{a b c d:CV}{R:CV→Prop}{R2:CV→CV→Prop}
theorem C1 (h:cA P f [a] R)(hK: ∀v,R v→K (.c v) ob)(hf:ob nid=none∧ob (nid+1)=none∧ob (nid+2)=none∧ob (nid+3)=none:=by exact⟨rfl,rfl,rfl,rfl⟩):HCall P av f [.c a] ob nid K:=oL (args:=[a]) h hf hK
theorem C2 (h:cA P f [a,b] R)(hK: ∀v,R v→K (.c v) ob)(hf:ob nid=none∧ob (nid+1)=none∧ob (nid+2)=none∧ob (nid+3)=none:=by exact⟨rfl,rfl,rfl,rfl⟩):HCall P av f [.c a,.c b] ob nid K:=oL (args:=[a,b]) h hf hK
theorem C3 (h:cA P f [a,b,c] R)(hK: ∀v,R v→K (.c v) ob)(hf:ob nid=none∧ob (nid+1)=none∧ob (nid+2)=none∧ob (nid+3)=none:=by exact⟨rfl,rfl,rfl,rfl⟩):HCall P av f [.c a,.c b,.c c] ob nid K:=oL (args:=[a,b,c]) h hf hK
theorem D1 (h:gT P f [a] R2)(hK: ∀u v,R2 u v→K (.tup [.c u,.c v]) ob)(hf:Free4 ob nid:=by exact⟨rfl,rfl,rfl,rfl⟩):HCall P av f [.c a] ob nid K:=vX (args:=[a]) h hf hK
theorem D2 (h:gT P f [a,b] R2)(hK: ∀u v,R2 u v→K (.tup [.c u,.c v]) ob)(hf:Free4 ob nid:=by exact⟨rfl,rfl,rfl,rfl⟩):HCall P av f [.c a,.c b] ob nid K:=vX (args:=[a,b]) h hf hK
end
section
variable {Q:Fr→Ob→Prop}{l:List Nat}{f:FuncId}{args:List CV}{t:CV}{R:CV→Prop}{ff:HV→Fr}
end
structure Bx (b:Prop):Prop where
  o:b
end
end Go.Proofs.YtlldglbooaefhaaGreatDoor
namespace Go.Pl
open Go Go.Hl
section
variable {r:Rt}{role:aH}{a b:List Dig}{t:Int}
end
section
variable {α:Type}{p:α→Bool}{l:List α}
theorem bD8 {i:Nat}(hi:i<l.length)(h:p l[i]=false)(h0: ∀x∈l.take i,p x=false): ∀x∈l.take (i+1),p x=false:=fun x hx=>by
 rw[List.take_succ_eq_append_getElem hi,List.mem_append,List.mem_singleton]at hx;rcases hx with hx|rfl
 · exact h0 x hx
 · exact h
end
def alZ (c:UInt8):Bool:=(decide (97≤(c.toNat:Int))&&decide ((c.toNat:Int)≤122))||(decide (48≤(c.toNat:Int))&&decide ((c.toNat:Int)≤57))
def puZ (c:UInt8):Bool:=((c.toNat:Int)==46)||(((c.toNat:Int)==95)||((c.toNat:Int)==45))
def okc (i:Nat)(c:UInt8):Bool:=alZ c||(decide (0<(i:Int))&&puZ c)
theorem cI8 (c:UInt8):al c=alZ c:=by
 have h1:decide ((97:UInt8)≤c)=decide (97≤(c.toNat:Int)):=by rw[Bool.eq_iff_iff];simp only[decide_eq_true_eq,UInt8.le_iff_toNat_le];show 97≤c.toNat↔_;omega
 have h2:decide (c≤(122:UInt8))=decide ((c.toNat:Int)≤122):=by rw[Bool.eq_iff_iff];simp only[decide_eq_true_eq,UInt8.le_iff_toNat_le];show c.toNat≤122↔_;omega
 have h3:decide ((48:UInt8)≤c)=decide (48≤(c.toNat:Int)):=by rw[Bool.eq_iff_iff];simp only[decide_eq_true_eq,UInt8.le_iff_toNat_le];show 48≤c.toNat↔_;omega
 have h4:decide (c≤(57:UInt8))=decide ((c.toNat:Int)≤57):=by rw[Bool.eq_iff_iff];simp only[decide_eq_true_eq,UInt8.le_iff_toNat_le];show c.toNat≤57↔_;omega
 grind[al,alZ]
theorem cL9 (c d:UInt8):(c==d)=((c.toNat:Int)==(d.toNat:Int)):=by
 rw[Bool.eq_iff_iff];simp only[beq_iff_eq];constructor
 · grind
 grind[UInt8.toNat_inj]
theorem cM0 (c:UInt8):nc c=(alZ c||puZ c):=by simp_all[nc,puZ,cI8,cL9]
variable {s:aH}
theorem lB :dG s=true↔(1≤s.length∧s.length≤64)∧ ∀i (h:i<s.length),okc i s[i]=true:=by
 cases s with
 |nil=>simp[dG]
 |cons c r=>
  simp only[dG,Bool.and_eq_true,decide_eq_true_eq,List.all_eq_true,cI8,cM0];constructor
  ·
   rintro⟨h1,h2,h3⟩;refine⟨⟨by simp,h1⟩,fun i hi=>?_⟩;cases i with
   |zero=>simp[okc,h2]
   |succ i=>
    have:=h3 _ (List.getElem_mem (by grind:i<r.length));simp only[List.getElem_cons_succ];unfold okc;grind
  ·
   rintro⟨⟨_,h1⟩,h3⟩;refine⟨h1,?_,fun x hx=>?_⟩
   · grind[okc]
   · obtain⟨i,hi,rfl⟩:=List.mem_iff_getElem.1 hx;have:=h3 (i+1) (by grind);simp only[List.getElem_cons_succ]at this;unfold okc at this;grind
theorem zK (h: ¬(1≤s.length∧s.length≤64)):dG s=false:=by grind[dG,absurd,lB]
variable {i:Nat}
theorem zL (hi:i<s.length)(h:okc i s[i]=false):dG s=false:=by grind[dG,lB]
theorem bD9 (hi:i<s.length)(h:okc i s[i]=true)(h0: ∀j (_:j<i) (h:j<s.length),okc j s[j]=true): ∀j (_:j<i+1) (h:j<s.length),okc j s[j]=true:=fun j hj h'=>by grind
def fQ (s:aH):Bool:=(s==[])||(decide (64<(s.length:Int))||(((gb s 0).toNat:Int)==46||(((gb s 0).toNat:Int)==95||((gb s 0).toNat:Int)==45)))
theorem aS5 (h:fQ s=true):dG s=false:=by
 cases s with
 |nil=>rfl
 |cons c r=>
  cases hn:dG (c::r)
  · rfl
  · obtain⟨⟨h1,h2⟩,h3⟩:=lB.1 hn;have h4:=h3 0 (by simp);simp only[fQ,gb,List.getD_cons_zero,Bool.or_eq_true,decide_eq_true_eq,beq_iff_eq]at h;grind[okc,alZ,List.length_cons]
theorem bE0 (h:fQ s=false)(hall: ∀j (h:j<s.length),(alZ s[j]||puZ s[j])=true):dG s=true:=by
 cases s with
 |nil=>simp[fQ]at h
 |cons c r=>
  simp only[fQ,gb,List.getD_cons_zero,Bool.or_eq_false_iff,decide_eq_false_iff_not]at h;obtain⟨_,h1,h2,h3,h4⟩:=h;refine lB.2 ⟨⟨by simp,by grind⟩,fun i hi=>?_⟩;have:=hall i hi;cases i with
  |zero=>
   simp_all[List.getElem_cons_zero,puZ,Bool.or_false,okc]
  |succ i=>
   have h0:decide (0<((i+1:Nat):Int))=true:=by simp only[decide_eq_true_eq];omega
   simp_all[okc,Bool.true_and]
theorem aS6 {j:Nat}(hj:j<s.length)(h:(alZ s[j]||puZ s[j])=false):dG s=false:=
 zL hj (by grind[alZ,puZ,okc])
section
variable {α β:Type}
def bE1 (r:α→α→Bool):List α→Bool
 |a::b::l=>r a b&&bE1 r (b::l)
 |_=>true
theorem aL5 {r:α→α→Bool}: ∀{l:List α},bE1 r l=true↔ ∀i (h:i+1<l.length),r l[i] l[i+1]=true
 |[]=>by simp[bE1]
 |[a]=>by simp[bE1]
 |a::b::l=>by
  have ih:=aL5 (r:=r) (l:=b::l);simp only[bE1,Bool.and_eq_true,ih];constructor
  ·
   rintro⟨h1,h2⟩ i hi;cases i with
   |zero=>exact h1
   |succ i=>exact h2 i (by simpa using hi)
  · intro h;exact⟨h 0 (by simp),fun i hi=>h (i+1) (by simpa using hi)⟩
def GoodTo (p:α→Bool)(r:α→α→Bool)(l:List α)(i:Nat):Prop:=(∀j (h:j<l.length),j<i→p l[j]=true)∧ ∀j (h:j+1<l.length),j+1<i→r l[j] l[j+1]=true
variable {p:α→Bool}{r:α→α→Bool}{l:List α}
theorem GoodTo.zero :GoodTo p r l 0:=⟨fun j _ h=>by omega,fun j _ h=>by omega⟩
theorem GoodTo.one (hi:0<l.length)(h:p l[0]=true):GoodTo p r l 1:=by
 refine⟨fun j h' hj=>?_,fun j _ h=>by omega⟩;have:j=0:=by omega
 subst this;exact h
theorem GoodTo.succ {i:Nat}(hi:i+1<l.length)(h:p l[i+1]=true)(hr:r l[i] l[i+1]=true)(h0:GoodTo p r l (i+1)):GoodTo p r l (i+1+1):=by
 refine⟨fun j h' hj=>?_,fun j h' hj=>?_⟩
 ·
  rcases Nat.lt_or_ge j (i+1)with h1|h1
  · exact h0.1 j h' h1
  ·
   have:j=i+1:=by omega
   subst this;exact h
 ·
  rcases Nat.lt_or_ge (j+1) (i+1)with h1|h1
  · exact h0.2 j h' h1
  ·
   have:j=i:=by omega
   subst this;exact hr
theorem GoodTo.all (h:GoodTo p r l l.length):(l.all p&&bE1 r l)=true:=by
 rw[Bool.and_eq_true,List.all_eq_true,aL5];refine⟨fun x hx=>?_,fun i hi=>h.2 i hi hi⟩;obtain⟨i,hi,rfl⟩:=List.mem_iff_getElem.1 hx;exact h.1 i hi hi
end
theorem denilL_u8 (l:List UInt8):CV.denilL (l.map u8)=l.map u8:=cI (f:=u8) (fun _=>rfl) l
theorem lY {s:aH}(h:(s==[])=false):(0:Int)<(s.length:Int):=by
 cases s with
 |nil=>cases h
 |cons x s=>rw[List.length_cons];omega
def kSz (k:Ky):Prop:=k.o.length<2^63∧k.rs.length<2^40∧ ∀w∈k.rs,w.length<2^63
def rSz (r:Rt):Prop:=(r.q.length<2^40∧ ∀q∈r.q,q.r.length<2^63)∧(r.k.length<2^40∧ ∀k∈r.k,kSz k)∧r.x.length<2^40
end Go.Pl
namespace Go.Proofs.YtlldglbooaefhaaGreatDoor
open Go Go.Hl Go.Pl
set_option maxRecDepth 10000
set_option maxHeartbeats 16000000
theorem wH (n:Int):cA Tryz.prog 61 [.int .i64 n] (fun v=>v= .bool (inN n)):=by
 refine FW Tryz.func61 ?_;refine R0 ?_;refine aC fun K hK=>Rg ?_;iterate 3 refine S0 ?_
 refine aE 4 rfl (fun h1_4=>?_) (fun h1_4=>?_)
 ·
  have F:=h1_4;iterate 4 refine SF ?_
  refine T2 (hK _ _ _ ?_);clear hK K;refine aF (RT Tryz.results61 ?_);refine aJ [] (.bool _) rfl ?_;simp[h1_4,inN,sC];all_goals first|rfl|simp_all
 have F:=h1_4;iterate 4 refine SF ?_
 refine T2 (hK _ _ _ ?_);clear hK K;refine aF (RT Tryz.results61 ?_);refine aJ [] (.bool _) rfl ?_;simp[h1_4,inN,sC];all_goals first|rfl|simp_all
theorem aE1 (s:aH)(hl:s.length<2^63):cA Tryz.prog 56 [.str s] (fun v=>v= .bool (dG s)):=by
 refine FW Tryz.func56 ?_;refine R0 ?_;refine aC fun K hK=>?_;refine aC fun K hK=>Rg ?_;iterate 4 refine S0 ?_
 refine aE 7 rfl (fun h1_7=>?_) (fun h1_7=>?_)
 ·
  have F:=h1_7;iterate 4 refine SF ?_
  refine T2 (hK _ _ _ ?_);clear hK K;refine CT rfl ?_;refine R0 ?_;refine aF (RT Tryz.results56 ?_);exact aJ [] (.bool false) rfl (by rw[zK (by simp at h1_7;omega)])
 have F:=h1_7;iterate 4 refine SF ?_
 refine T2 (hK _ _ _ ?_);clear hK K;refine aG (b:=_) rfl (fun hb=>?_) (fun hb=>?_)
 · refine R0 ?_;refine aF (RT Tryz.results56 ?_);exact aJ [] (.bool false) rfl (by rw[zK (by simp at hb;omega)])
 refine aK ?_;refine T0 (hK _ _ _ ?_);clear hK K;refine aC fun K hK=>?_;refine R0 ?_;refine aM ?_;have hlen:1≤s.length∧s.length≤64:=by simp at h1_7 hb;omega
 refine bI (α:={i:Nat//i≤s.length∧ ∀j (_:j<i) (h:j<s.length),okc j s[j]=true}) (fun i=>(fin [(0,.c (.str s)),(3,.c (.int .i64 i.1))],fob [])) 100 (fun i=>s.length-i.1) ⟨0,by omega,fun j h=>by omega⟩ (fF) ?_;clear hb;rintro⟨i,hi,h0⟩;refine aC fun K hK=>?_;refine aC fun K hK=>Rg ?_;iterate 4 refine SF ?_
 refine T2 (hK _ _ _ ?_);clear hK K;refine aG (b:=decide ((i:Int)<s.length)) rfl (fun hb=>?_) (fun hb=>?_)
 ·
  have hlt:i<s.length:=by simpa using hb
  have hgd:s.getD i 0=s[i]:=by simp[hlt]
  refine aK ?_;refine T0 (hK _ _ _ ?_);clear hK K;refine aC fun K hK=>?_;refine aM ?_;refine aC fun K hK=>Rg ?_;iterate 4 refine S0 ?_ (e:=fun _ h_=>by simp only[sH,↓sP,sA,tyS,simprocAttr,Int.natCast_nonneg,Int.ofNat_lt,hlt,hgd,h1_7];exact AX h_)
  refine T2 (hK _ _ _ ?_);clear hK K;refine aC fun K hK=>?_;refine aC fun K hK=>?_;have key: ∀(b:Bool) fr ob nx,b=okc i s[i]→Fits 0 fr ob (fin [(0,.c (.str s)),(3,.c (.int .i64 i)),(51,.c (.bool b))]) (fob []) 600→K fr ob nx:=by
   rintro b fr ob nx rfl hf;refine hK _ _ _ (bF hf ?_);clear hf hK K;refine aG (b:=okc i s[i]) rfl (fun hb=>?_) (fun hb=>?_)
   · refine bD (T3 ?_);clear hK K;refine AX (hK _ _ _ ?_);clear hK K;refine aN (by kernel_rfl) ?_;refine TQ (jB i) ?_;refine⟨⟨i+1,hlt,bD9 hlt hb h0⟩,fF,?_⟩;show s.length-(i+1)<s.length-i;omega
   refine aK ?_;refine T0 (hK _ _ _ ?_);clear hK K;refine R0 ?_;refine aF (RT Tryz.results56 ?_);exact aJ [] (.bool false) rfl (by rw[zL hlt hb])
  refine Rg ?_;iterate 3 refine SF ?_
  refine aE 23 rfl (fun h7_23=>?_) (fun h7_23=>?_)
  ·
   have F:=aI h1_7 h7_23;iterate 4 refine SF ?_
   refine aE 26 rfl (fun h7_26=>?_) (fun h7_26=>?_)
   ·
    have F:=aI h1_7 (aI h7_23 h7_26);iterate 23 refine SF ?_
    refine T4 ?_;exact key true _ _ _ (by simp only[okc,alZ,puZ,h1_7,h7_23,h7_26,Bool.and_true,Bool.and_false,Bool.true_and,Bool.false_and,Bool.or_true,Bool.true_or,Bool.false_or,Bool.or_false,Bool.and_self,Bool.or_self]) (fF)
   have F:=aI h1_7 (aI h7_23 h7_26);iterate 3 refine SF ?_
   refine aE 30 rfl (fun h7_30=>?_) (fun h7_30=>?_)
   ·
    have F:=aI h1_7 (aI h7_23 (aI h7_26 h7_30));iterate 5 refine SF ?_
    refine aE 33 rfl (fun h7_33=>?_) (fun h7_33=>?_)
    ·
     have F:=aI h1_7 (aI h7_23 (aI h7_26 (aI h7_30 h7_33)));iterate 15 refine SF ?_
     refine T4 ?_;exact key true _ _ _ (by simp only[okc,alZ,puZ,h1_7,h7_23,h7_26,h7_30,h7_33,Bool.and_true,Bool.and_false,Bool.true_and,Bool.false_and,Bool.or_true,Bool.true_or,Bool.false_or,Bool.or_false,Bool.and_self,Bool.or_self]) (fF)
    have F:=aI h1_7 (aI h7_23 (aI h7_26 (aI h7_30 h7_33)));iterate 3 refine SF ?_
    refine aE 38 rfl (fun h7_38=>?_) (fun h7_38=>?_)
    ·
     have F:=aI h1_7 (aI h7_23 (aI h7_26 (aI h7_30 (aI h7_33 h7_38))));iterate 3 refine SF ?_
     refine aE 41 rfl (fun h7_41=>?_) (fun h7_41=>?_)
     ·
      have F:=aI h1_7 (aI h7_23 (aI h7_26 (aI h7_30 (aI h7_33 (aI h7_38 h7_41)))));iterate 9 refine SF ?_
      refine T4 ?_;exact key true _ _ _ (by simp only[okc,alZ,puZ,h1_7,h7_23,h7_26,h7_30,h7_33,h7_38,h7_41,Bool.and_true,Bool.and_false,Bool.true_and,Bool.false_and,Bool.or_true,Bool.true_or,Bool.false_or,Bool.or_false,Bool.and_self,Bool.or_self]) (fF)
     have F:=aI h1_7 (aI h7_23 (aI h7_26 (aI h7_30 (aI h7_33 (aI h7_38 h7_41)))));iterate 4 refine SF ?_
     refine aE 44 rfl (fun h7_44=>?_) (fun h7_44=>?_)
     ·
      have F:=aI h1_7 (aI h7_23 (aI h7_26 (aI h7_30 (aI h7_33 (aI h7_38 (aI h7_41 h7_44))))));iterate 5 refine SF ?_
      refine T4 ?_;exact key true _ _ _ (by simp only[okc,alZ,puZ,h1_7,h7_23,h7_26,h7_30,h7_33,h7_38,h7_41,h7_44,Bool.and_true,Bool.and_false,Bool.true_and,Bool.false_and,Bool.or_true,Bool.true_or,Bool.false_or,Bool.or_false,Bool.and_self,Bool.or_self]) (fF)
     have F:=aI h1_7 (aI h7_23 (aI h7_26 (aI h7_30 (aI h7_33 (aI h7_38 (aI h7_41 h7_44))))));iterate 5 refine SF ?_
     refine aE 48 rfl (fun h7_48=>?_) (fun h7_48=>?_)
     · simp only[h7_48];refine T4 ?_;exact key true _ _ _ (by simp only[okc,alZ,puZ,h1_7,h7_23,h7_26,h7_30,h7_33,h7_38,h7_41,h7_44,h7_48,Bool.and_true,Bool.and_false,Bool.true_and,Bool.false_and,Bool.or_true,Bool.true_or,Bool.false_or,Bool.or_false,Bool.and_self,Bool.or_self]) (fF)
     simp only[h7_48];refine T4 ?_;exact key false _ _ _ (by simp only[okc,alZ,puZ,h1_7,h7_23,h7_26,h7_30,h7_33,h7_38,h7_41,h7_44,h7_48,Bool.and_true,Bool.and_false,Bool.true_and,Bool.false_and,Bool.or_true,Bool.true_or,Bool.false_or,Bool.or_false,Bool.and_self,Bool.or_self]) (fF)
    have F:=aI h1_7 (aI h7_23 (aI h7_26 (aI h7_30 (aI h7_33 h7_38))));iterate 12 refine SF ?_
    refine T4 ?_;exact key false _ _ _ (by simp only[okc,alZ,puZ,h1_7,h7_23,h7_26,h7_30,h7_33,h7_38,Bool.and_true,Bool.and_false,Bool.true_and,Bool.false_and,Bool.or_true,Bool.true_or,Bool.false_or,Bool.or_false,Bool.and_self,Bool.or_self]) (fF)
   have F:=aI h1_7 (aI h7_23 (aI h7_26 h7_30));iterate 8 refine SF ?_
   refine aE 38 rfl (fun h7_38=>?_) (fun h7_38=>?_)
   ·
    have F:=aI h1_7 (aI h7_23 (aI h7_26 (aI h7_30 h7_38)));iterate 3 refine SF ?_
    refine aE 41 rfl (fun h7_41=>?_) (fun h7_41=>?_)
    ·
     have F:=aI h1_7 (aI h7_23 (aI h7_26 (aI h7_30 (aI h7_38 h7_41))));iterate 9 refine SF ?_
     refine T4 ?_;exact key true _ _ _ (by simp only[okc,alZ,puZ,h1_7,h7_23,h7_26,h7_30,h7_38,h7_41,Bool.and_true,Bool.and_false,Bool.true_and,Bool.false_and,Bool.or_true,Bool.true_or,Bool.false_or,Bool.or_false,Bool.and_self,Bool.or_self]) (fF)
    have F:=aI h1_7 (aI h7_23 (aI h7_26 (aI h7_30 (aI h7_38 h7_41))));iterate 4 refine SF ?_
    refine aE 44 rfl (fun h7_44=>?_) (fun h7_44=>?_)
    ·
     have F:=aI h1_7 (aI h7_23 (aI h7_26 (aI h7_30 (aI h7_38 (aI h7_41 h7_44)))));iterate 5 refine SF ?_
     refine T4 ?_;exact key true _ _ _ (by simp only[okc,alZ,puZ,h1_7,h7_23,h7_26,h7_30,h7_38,h7_41,h7_44,Bool.and_true,Bool.and_false,Bool.true_and,Bool.false_and,Bool.or_true,Bool.true_or,Bool.false_or,Bool.or_false,Bool.and_self,Bool.or_self]) (fF)
    have F:=aI h1_7 (aI h7_23 (aI h7_26 (aI h7_30 (aI h7_38 (aI h7_41 h7_44)))));iterate 5 refine SF ?_
    refine aE 48 rfl (fun h7_48=>?_) (fun h7_48=>?_)
    · simp only[h7_48];refine T4 ?_;exact key true _ _ _ (by simp only[okc,alZ,puZ,h1_7,h7_23,h7_26,h7_30,h7_38,h7_41,h7_44,h7_48,Bool.and_true,Bool.and_false,Bool.true_and,Bool.false_and,Bool.or_true,Bool.true_or,Bool.false_or,Bool.or_false,Bool.and_self,Bool.or_self]) (fF)
    simp only[h7_48];refine T4 ?_;exact key false _ _ _ (by simp only[okc,alZ,puZ,h1_7,h7_23,h7_26,h7_30,h7_38,h7_41,h7_44,h7_48,Bool.and_true,Bool.and_false,Bool.true_and,Bool.false_and,Bool.or_true,Bool.true_or,Bool.false_or,Bool.or_false,Bool.and_self,Bool.or_self]) (fF)
   have F:=aI h1_7 (aI h7_23 (aI h7_26 (aI h7_30 h7_38)));iterate 12 refine SF ?_
   refine T4 ?_;exact key false _ _ _ (by simp only[okc,alZ,puZ,h1_7,h7_23,h7_26,h7_30,h7_38,Bool.and_true,Bool.and_false,Bool.true_and,Bool.false_and,Bool.or_true,Bool.true_or,Bool.false_or,Bool.or_false,Bool.and_self,Bool.or_self]) (fF)
  have F:=aI h1_7 h7_23;iterate 7 refine SF ?_
  refine aE 30 rfl (fun h7_30=>?_) (fun h7_30=>?_)
  ·
   have F:=aI h1_7 (aI h7_23 h7_30);iterate 5 refine SF ?_
   refine aE 33 rfl (fun h7_33=>?_) (fun h7_33=>?_)
   ·
    have F:=aI h1_7 (aI h7_23 (aI h7_30 h7_33));iterate 15 refine SF ?_
    refine T4 ?_;exact key true _ _ _ (by simp only[okc,alZ,puZ,h1_7,h7_23,h7_30,h7_33,Bool.and_true,Bool.and_false,Bool.true_and,Bool.false_and,Bool.or_true,Bool.true_or,Bool.false_or,Bool.or_false,Bool.and_self,Bool.or_self]) (fF)
   have F:=aI h1_7 (aI h7_23 (aI h7_30 h7_33));iterate 3 refine SF ?_
   refine aE 38 rfl (fun h7_38=>?_) (fun h7_38=>?_)
   ·
    have F:=aI h1_7 (aI h7_23 (aI h7_30 (aI h7_33 h7_38)));iterate 3 refine SF ?_
    refine aE 41 rfl (fun h7_41=>?_) (fun h7_41=>?_)
    ·
     have F:=aI h1_7 (aI h7_23 (aI h7_30 (aI h7_33 (aI h7_38 h7_41))));iterate 9 refine SF ?_
     refine T4 ?_;exact key true _ _ _ (by simp only[okc,alZ,puZ,h1_7,h7_23,h7_30,h7_33,h7_38,h7_41,Bool.and_true,Bool.and_false,Bool.true_and,Bool.false_and,Bool.or_true,Bool.true_or,Bool.false_or,Bool.or_false,Bool.and_self,Bool.or_self]) (fF)
    have F:=aI h1_7 (aI h7_23 (aI h7_30 (aI h7_33 (aI h7_38 h7_41))));iterate 4 refine SF ?_
    refine aE 44 rfl (fun h7_44=>?_) (fun h7_44=>?_)
    ·
     have F:=aI h1_7 (aI h7_23 (aI h7_30 (aI h7_33 (aI h7_38 (aI h7_41 h7_44)))));iterate 5 refine SF ?_
     refine T4 ?_;exact key true _ _ _ (by simp only[okc,alZ,puZ,h1_7,h7_23,h7_30,h7_33,h7_38,h7_41,h7_44,Bool.and_true,Bool.and_false,Bool.true_and,Bool.false_and,Bool.or_true,Bool.true_or,Bool.false_or,Bool.or_false,Bool.and_self,Bool.or_self]) (fF)
    have F:=aI h1_7 (aI h7_23 (aI h7_30 (aI h7_33 (aI h7_38 (aI h7_41 h7_44)))));iterate 5 refine SF ?_
    refine aE 48 rfl (fun h7_48=>?_) (fun h7_48=>?_)
    · simp only[h7_48];refine T4 ?_;exact key true _ _ _ (by simp only[okc,alZ,puZ,h1_7,h7_23,h7_30,h7_33,h7_38,h7_41,h7_44,h7_48,Bool.and_true,Bool.and_false,Bool.true_and,Bool.false_and,Bool.or_true,Bool.true_or,Bool.false_or,Bool.or_false,Bool.and_self,Bool.or_self]) (fF)
    simp only[h7_48];refine T4 ?_;exact key false _ _ _ (by simp only[okc,alZ,puZ,h1_7,h7_23,h7_30,h7_33,h7_38,h7_41,h7_44,h7_48,Bool.and_true,Bool.and_false,Bool.true_and,Bool.false_and,Bool.or_true,Bool.true_or,Bool.false_or,Bool.or_false,Bool.and_self,Bool.or_self]) (fF)
   have F:=aI h1_7 (aI h7_23 (aI h7_30 (aI h7_33 h7_38)));iterate 12 refine SF ?_
   refine T4 ?_;exact key false _ _ _ (by simp only[okc,alZ,puZ,h1_7,h7_23,h7_30,h7_33,h7_38,Bool.and_true,Bool.and_false,Bool.true_and,Bool.false_and,Bool.or_true,Bool.true_or,Bool.false_or,Bool.or_false,Bool.and_self,Bool.or_self]) (fF)
  have F:=aI h1_7 (aI h7_23 h7_30);iterate 8 refine SF ?_
  refine aE 38 rfl (fun h7_38=>?_) (fun h7_38=>?_)
  ·
   have F:=aI h1_7 (aI h7_23 (aI h7_30 h7_38));iterate 3 refine SF ?_
   refine aE 41 rfl (fun h7_41=>?_) (fun h7_41=>?_)
   ·
    have F:=aI h1_7 (aI h7_23 (aI h7_30 (aI h7_38 h7_41)));iterate 9 refine SF ?_
    refine T4 ?_;exact key true _ _ _ (by simp only[okc,alZ,puZ,h1_7,h7_23,h7_30,h7_38,h7_41,Bool.and_true,Bool.and_false,Bool.true_and,Bool.false_and,Bool.or_true,Bool.true_or,Bool.false_or,Bool.or_false,Bool.and_self,Bool.or_self]) (fF)
   have F:=aI h1_7 (aI h7_23 (aI h7_30 (aI h7_38 h7_41)));iterate 4 refine SF ?_
   refine aE 44 rfl (fun h7_44=>?_) (fun h7_44=>?_)
   ·
    have F:=aI h1_7 (aI h7_23 (aI h7_30 (aI h7_38 (aI h7_41 h7_44))));iterate 5 refine SF ?_
    refine T4 ?_;exact key true _ _ _ (by simp only[okc,alZ,puZ,h1_7,h7_23,h7_30,h7_38,h7_41,h7_44,Bool.and_true,Bool.and_false,Bool.true_and,Bool.false_and,Bool.or_true,Bool.true_or,Bool.false_or,Bool.or_false,Bool.and_self,Bool.or_self]) (fF)
   have F:=aI h1_7 (aI h7_23 (aI h7_30 (aI h7_38 (aI h7_41 h7_44))));iterate 5 refine SF ?_
   refine aE 48 rfl (fun h7_48=>?_) (fun h7_48=>?_)
   · simp only[h7_48];refine T4 ?_;exact key true _ _ _ (by simp only[okc,alZ,puZ,h1_7,h7_23,h7_30,h7_38,h7_41,h7_44,h7_48,Bool.and_true,Bool.and_false,Bool.true_and,Bool.false_and,Bool.or_true,Bool.true_or,Bool.false_or,Bool.or_false,Bool.and_self,Bool.or_self]) (fF)
   simp only[h7_48];refine T4 ?_;exact key false _ _ _ (by simp only[okc,alZ,puZ,h1_7,h7_23,h7_30,h7_38,h7_41,h7_44,h7_48,Bool.and_true,Bool.and_false,Bool.true_and,Bool.false_and,Bool.or_true,Bool.true_or,Bool.false_or,Bool.or_false,Bool.and_self,Bool.or_self]) (fF)
  have F:=aI h1_7 (aI h7_23 (aI h7_30 h7_38));iterate 12 refine SF ?_
  refine T4 ?_;exact key false _ _ _ (by simp only[okc,alZ,puZ,h1_7,h7_23,h7_30,h7_38,Bool.and_true,Bool.and_false,Bool.true_and,Bool.false_and,Bool.or_true,Bool.true_or,Bool.false_or,Bool.or_false,Bool.and_self,Bool.or_self]) (fF)
 refine bD (T3 ?_);clear hK K;refine AX (hK _ _ _ ?_);clear hK K;refine R0 ?_;refine aF (RT Tryz.results56 ?_);have hei:i=s.length:=by simp at hb;omega
 exact aJ [] (.bool true) rfl (by rw[lB.2 ⟨hlen,fun j h=>h0 j (by omega) h⟩])
theorem wI (s:aH)(hl:s.length<2^63):cA Tryz.prog 59 [.str s] (fun v=>v= .bool (dG s)):=by
 refine FW Tryz.func59 ?_;refine R0 ?_;refine aC fun K hK=>?_;refine aC fun K hK=>?_;have key: ∀(b:Bool) fr ob nx,b=fQ s→Fits 0 fr ob (fin [(0,.c (.str s)),(26,.c (.bool b))]) (fob []) 600→K fr ob nx:=by
  rintro b fr ob nx rfl hf;refine hK _ _ _ (bF hf ?_);clear hf hK K;refine aG (b:=fQ s) rfl (fun hb=>?_) (fun hb=>?_)
  · refine R0 ?_;refine aF (RT Tryz.results59 ?_);exact aJ [] (.bool false) rfl (by rw[aS5 hb])
  refine aK ?_;refine T0 (hK _ _ _ ?_);clear hK K;refine aC fun K hK=>?_;refine R0 ?_;refine aM ?_;have hbad:=hb;refine bI (α:={i:Nat//i≤s.length∧ ∀j (_:j<i) (h:j<s.length),(alZ s[j]||puZ s[j])=true}) (fun i=>(fin [(0,.c (.str s)),(3,.c (.int .i64 i.1))],fob [])) 100 (fun i=>s.length-i.1) ⟨0,by omega,fun j h=>by omega⟩ (fF) ?_;clear hb;rintro⟨i,hi,h0⟩;refine aC fun K hK=>?_;refine aC fun K hK=>Rg ?_;iterate 4 refine S0 ?_
  refine T2 (hK _ _ _ ?_);clear hK K;refine aG (b:=decide ((i:Int)<s.length)) rfl (fun hb=>?_) (fun hb=>?_)
  ·
   have hlt:i<s.length:=by simpa using hb
   have hgd:s.getD i 0=s[i]:=by simp[hlt]
   refine aK ?_;refine T0 (hK _ _ _ ?_);clear hK K;refine aC fun K hK=>?_;refine aM ?_;refine aC fun K hK=>Rg ?_;iterate 4 refine S0 ?_ (e:=fun _ h_=>by simp only[sH,↓sP,sA,tyS,simprocAttr,Int.natCast_nonneg,Int.ofNat_lt,hlt,hgd];exact AX h_)
   refine T2 (hK _ _ _ ?_);clear hK K;refine aC fun K hK=>?_;have key: ∀(b:Bool) fr ob nx,b=(!(alZ s[i]||puZ s[i]))→Fits 0 fr ob (fin [(0,.c (.str s)),(3,.c (.int .i64 i)),(62,.c (.bool b))]) (fob []) 600→K fr ob nx:=by
    rintro b fr ob nx rfl hf;refine hK _ _ _ (bF hf ?_);clear hf hK K;refine aG (b:=!(alZ s[i]||puZ s[i])) rfl (fun hb=>?_) (fun hb=>?_)
    · refine R0 ?_;refine aF (RT Tryz.results59 ?_);exact aJ [] (.bool false) rfl (by rw[aS6 hlt (by simpa using hb)])
    refine aK ?_;refine T0 (hK _ _ _ ?_);clear hK K;refine aN (by kernel_rfl) ?_;refine TQ (jB i) ?_;refine⟨⟨i+1,hlt,fun j hj h'=>?_⟩,fF,?_⟩
    ·
     rcases Nat.lt_or_ge j i with h1|h1
     · exact h0 j h1 h'
     have:j=i:=by omega
     subst this;rw[Bool.not_eq_false']at hb;exact hb
    show s.length-(i+1)<s.length-i;omega
   refine Rg ?_;iterate 3 refine S0 ?_
   refine aE 37 rfl (fun h7_37=>?_) (fun h7_37=>?_)
   ·
    have F:=h7_37;iterate 4 refine SF ?_
    refine aE 40 rfl (fun h7_40=>?_) (fun h7_40=>?_)
    ·
     have F:=aI h7_37 h7_40;iterate 20 refine SF ?_
     refine T4 ?_;exact key false _ _ _ (by simp only[alZ,puZ,h7_37,h7_40,Bool.and_true,Bool.and_false,Bool.true_and,Bool.false_and,Bool.or_true,Bool.true_or,Bool.false_or,Bool.or_false,Bool.and_self,Bool.or_self,Bool.not_true,Bool.not_false]) (fF)
    have F:=aI h7_37 h7_40;iterate 3 refine SF ?_
    refine aE 44 rfl (fun h7_44=>?_) (fun h7_44=>?_)
    ·
     have F:=aI h7_37 (aI h7_40 h7_44);iterate 5 refine SF ?_
     refine aE 47 rfl (fun h7_47=>?_) (fun h7_47=>?_)
     ·
      have F:=aI h7_37 (aI h7_40 (aI h7_44 h7_47));iterate 12 refine SF ?_
      refine T4 ?_;exact key false _ _ _ (by simp only[alZ,puZ,h7_37,h7_40,h7_44,h7_47,Bool.and_true,Bool.and_false,Bool.true_and,Bool.false_and,Bool.or_true,Bool.true_or,Bool.false_or,Bool.or_false,Bool.and_self,Bool.or_self,Bool.not_true,Bool.not_false]) (fF)
     have F:=aI h7_37 (aI h7_40 (aI h7_44 h7_47));iterate 4 refine SF ?_
     refine aE 52 rfl (fun h7_52=>?_) (fun h7_52=>?_)
     ·
      have F:=aI h7_37 (aI h7_40 (aI h7_44 (aI h7_47 h7_52)));iterate 8 refine SF ?_
      refine T4 ?_;exact key false _ _ _ (by simp only[alZ,puZ,h7_37,h7_40,h7_44,h7_47,h7_52,Bool.and_true,Bool.and_false,Bool.true_and,Bool.false_and,Bool.or_true,Bool.true_or,Bool.false_or,Bool.or_false,Bool.and_self,Bool.or_self,Bool.not_true,Bool.not_false]) (fF)
     have F:=aI h7_37 (aI h7_40 (aI h7_44 (aI h7_47 h7_52)));iterate 4 refine SF ?_
     refine aE 56 rfl (fun h7_56=>?_) (fun h7_56=>?_)
     ·
      have F:=aI h7_37 (aI h7_40 (aI h7_44 (aI h7_47 (aI h7_52 h7_56))));iterate 4 refine SF ?_
      refine T4 ?_;exact key false _ _ _ (by simp only[alZ,puZ,h7_37,h7_40,h7_44,h7_47,h7_52,h7_56,Bool.and_true,Bool.and_false,Bool.true_and,Bool.false_and,Bool.or_true,Bool.true_or,Bool.false_or,Bool.or_false,Bool.and_self,Bool.or_self,Bool.not_true,Bool.not_false]) (fF)
     have F:=aI h7_37 (aI h7_40 (aI h7_44 (aI h7_47 (aI h7_52 h7_56))));iterate 4 refine SF ?_
     refine aE 60 rfl (fun h7_60=>?_) (fun h7_60=>?_)
     · simp only[h7_60];refine T4 ?_;exact key false _ _ _ (by simp only[alZ,puZ,h7_37,h7_40,h7_44,h7_47,h7_52,h7_56,h7_60,Bool.and_true,Bool.and_false,Bool.true_and,Bool.false_and,Bool.or_true,Bool.true_or,Bool.false_or,Bool.or_false,Bool.and_self,Bool.or_self,Bool.not_true,Bool.not_false]) (fF)
     simp only[h7_60];refine T4 ?_;exact key true _ _ _ (by simp only[alZ,puZ,h7_37,h7_40,h7_44,h7_47,h7_52,h7_56,h7_60,Bool.and_true,Bool.and_false,Bool.true_and,Bool.false_and,Bool.or_true,Bool.true_or,Bool.false_or,Bool.or_false,Bool.and_self,Bool.or_self,Bool.not_true,Bool.not_false]) (fF)
    have F:=aI h7_37 (aI h7_40 h7_44);iterate 9 refine SF ?_
    refine aE 52 rfl (fun h7_52=>?_) (fun h7_52=>?_)
    ·
     have F:=aI h7_37 (aI h7_40 (aI h7_44 h7_52));iterate 8 refine SF ?_
     refine T4 ?_;exact key false _ _ _ (by simp only[alZ,puZ,h7_37,h7_40,h7_44,h7_52,Bool.and_true,Bool.and_false,Bool.true_and,Bool.false_and,Bool.or_true,Bool.true_or,Bool.false_or,Bool.or_false,Bool.and_self,Bool.or_self,Bool.not_true,Bool.not_false]) (fF)
    have F:=aI h7_37 (aI h7_40 (aI h7_44 h7_52));iterate 4 refine SF ?_
    refine aE 56 rfl (fun h7_56=>?_) (fun h7_56=>?_)
    ·
     have F:=aI h7_37 (aI h7_40 (aI h7_44 (aI h7_52 h7_56)));iterate 4 refine SF ?_
     refine T4 ?_;exact key false _ _ _ (by simp only[alZ,puZ,h7_37,h7_40,h7_44,h7_52,h7_56,Bool.and_true,Bool.and_false,Bool.true_and,Bool.false_and,Bool.or_true,Bool.true_or,Bool.false_or,Bool.or_false,Bool.and_self,Bool.or_self,Bool.not_true,Bool.not_false]) (fF)
    have F:=aI h7_37 (aI h7_40 (aI h7_44 (aI h7_52 h7_56)));iterate 4 refine SF ?_
    refine aE 60 rfl (fun h7_60=>?_) (fun h7_60=>?_)
    · simp only[h7_60];refine T4 ?_;exact key false _ _ _ (by simp only[alZ,puZ,h7_37,h7_40,h7_44,h7_52,h7_56,h7_60,Bool.and_true,Bool.and_false,Bool.true_and,Bool.false_and,Bool.or_true,Bool.true_or,Bool.false_or,Bool.or_false,Bool.and_self,Bool.or_self,Bool.not_true,Bool.not_false]) (fF)
    simp only[h7_60];refine T4 ?_;exact key true _ _ _ (by simp only[alZ,puZ,h7_37,h7_40,h7_44,h7_52,h7_56,h7_60,Bool.and_true,Bool.and_false,Bool.true_and,Bool.false_and,Bool.or_true,Bool.true_or,Bool.false_or,Bool.or_false,Bool.and_self,Bool.or_self,Bool.not_true,Bool.not_false]) (fF)
   have F:=h7_37;iterate 7 refine SF ?_
   refine aE 44 rfl (fun h7_44=>?_) (fun h7_44=>?_)
   ·
    have F:=aI h7_37 h7_44;iterate 5 refine SF ?_
    refine aE 47 rfl (fun h7_47=>?_) (fun h7_47=>?_)
    ·
     have F:=aI h7_37 (aI h7_44 h7_47);iterate 12 refine SF ?_
     refine T4 ?_;exact key false _ _ _ (by simp only[alZ,puZ,h7_37,h7_44,h7_47,Bool.and_true,Bool.and_false,Bool.true_and,Bool.false_and,Bool.or_true,Bool.true_or,Bool.false_or,Bool.or_false,Bool.and_self,Bool.or_self,Bool.not_true,Bool.not_false]) (fF)
    have F:=aI h7_37 (aI h7_44 h7_47);iterate 4 refine SF ?_
    refine aE 52 rfl (fun h7_52=>?_) (fun h7_52=>?_)
    ·
     have F:=aI h7_37 (aI h7_44 (aI h7_47 h7_52));iterate 8 refine SF ?_
     refine T4 ?_;exact key false _ _ _ (by simp only[alZ,puZ,h7_37,h7_44,h7_47,h7_52,Bool.and_true,Bool.and_false,Bool.true_and,Bool.false_and,Bool.or_true,Bool.true_or,Bool.false_or,Bool.or_false,Bool.and_self,Bool.or_self,Bool.not_true,Bool.not_false]) (fF)
    have F:=aI h7_37 (aI h7_44 (aI h7_47 h7_52));iterate 4 refine SF ?_
    refine aE 56 rfl (fun h7_56=>?_) (fun h7_56=>?_)
    ·
     have F:=aI h7_37 (aI h7_44 (aI h7_47 (aI h7_52 h7_56)));iterate 4 refine SF ?_
     refine T4 ?_;exact key false _ _ _ (by simp only[alZ,puZ,h7_37,h7_44,h7_47,h7_52,h7_56,Bool.and_true,Bool.and_false,Bool.true_and,Bool.false_and,Bool.or_true,Bool.true_or,Bool.false_or,Bool.or_false,Bool.and_self,Bool.or_self,Bool.not_true,Bool.not_false]) (fF)
    have F:=aI h7_37 (aI h7_44 (aI h7_47 (aI h7_52 h7_56)));iterate 4 refine SF ?_
    refine aE 60 rfl (fun h7_60=>?_) (fun h7_60=>?_)
    · simp only[h7_60];refine T4 ?_;exact key false _ _ _ (by simp only[alZ,puZ,h7_37,h7_44,h7_47,h7_52,h7_56,h7_60,Bool.and_true,Bool.and_false,Bool.true_and,Bool.false_and,Bool.or_true,Bool.true_or,Bool.false_or,Bool.or_false,Bool.and_self,Bool.or_self,Bool.not_true,Bool.not_false]) (fF)
    simp only[h7_60];refine T4 ?_;exact key true _ _ _ (by simp only[alZ,puZ,h7_37,h7_44,h7_47,h7_52,h7_56,h7_60,Bool.and_true,Bool.and_false,Bool.true_and,Bool.false_and,Bool.or_true,Bool.true_or,Bool.false_or,Bool.or_false,Bool.and_self,Bool.or_self,Bool.not_true,Bool.not_false]) (fF)
   have F:=aI h7_37 h7_44;iterate 9 refine SF ?_
   refine aE 52 rfl (fun h7_52=>?_) (fun h7_52=>?_)
   ·
    have F:=aI h7_37 (aI h7_44 h7_52);iterate 8 refine SF ?_
    refine T4 ?_;exact key false _ _ _ (by simp only[alZ,puZ,h7_37,h7_44,h7_52,Bool.and_true,Bool.and_false,Bool.true_and,Bool.false_and,Bool.or_true,Bool.true_or,Bool.false_or,Bool.or_false,Bool.and_self,Bool.or_self,Bool.not_true,Bool.not_false]) (fF)
   have F:=aI h7_37 (aI h7_44 h7_52);iterate 4 refine SF ?_
   refine aE 56 rfl (fun h7_56=>?_) (fun h7_56=>?_)
   ·
    have F:=aI h7_37 (aI h7_44 (aI h7_52 h7_56));iterate 4 refine SF ?_
    refine T4 ?_;exact key false _ _ _ (by simp only[alZ,puZ,h7_37,h7_44,h7_52,h7_56,Bool.and_true,Bool.and_false,Bool.true_and,Bool.false_and,Bool.or_true,Bool.true_or,Bool.false_or,Bool.or_false,Bool.and_self,Bool.or_self,Bool.not_true,Bool.not_false]) (fF)
   have F:=aI h7_37 (aI h7_44 (aI h7_52 h7_56));iterate 4 refine SF ?_
   refine aE 60 rfl (fun h7_60=>?_) (fun h7_60=>?_)
   · simp only[h7_60];refine T4 ?_;exact key false _ _ _ (by simp only[alZ,puZ,h7_37,h7_44,h7_52,h7_56,h7_60,Bool.and_true,Bool.and_false,Bool.true_and,Bool.false_and,Bool.or_true,Bool.true_or,Bool.false_or,Bool.or_false,Bool.and_self,Bool.or_self,Bool.not_true,Bool.not_false]) (fF)
   simp only[h7_60];refine T4 ?_;exact key true _ _ _ (by simp only[alZ,puZ,h7_37,h7_44,h7_52,h7_56,h7_60,Bool.and_true,Bool.and_false,Bool.true_and,Bool.false_and,Bool.or_true,Bool.true_or,Bool.false_or,Bool.or_false,Bool.and_self,Bool.or_self,Bool.not_true,Bool.not_false]) (fF)
  refine bD (T3 ?_);clear hK K;refine AX (hK _ _ _ ?_);clear hK K;refine R0 ?_;refine aF (RT Tryz.results59 ?_);have hei:i=s.length:=by simp at hb;omega
  exact aJ [] (.bool true) rfl (by rw[bE0 hbad fun j h=>h0 j (by omega) h])
 refine Rg ?_;have F:=@lY;iterate 3 refine SF ?_
 refine aE 6 rfl (fun h1_6=>?_) (fun h1_6=>?_)
 ·
  have F:=aI @lY h1_6;iterate 19 refine SF ?_
  refine T4 ?_;exact key true _ _ _ (by simp only[fQ,gb,h1_6,Bool.and_true,Bool.and_false,Bool.true_and,Bool.false_and,Bool.or_true,Bool.true_or,Bool.false_or,Bool.or_false,Bool.and_self,Bool.or_self]) (fF)
 have F:=aI @lY h1_6;iterate 5 refine SF ?_
 refine aE 10 rfl (fun h1_10=>?_) (fun h1_10=>?_)
 ·
  have F:=aI @lY (aI h1_6 h1_10);iterate 14 refine SF ?_
  refine T4 ?_;exact key true _ _ _ (by simp only[fQ,gb,h1_6,h1_10,Bool.and_true,Bool.and_false,Bool.true_and,Bool.false_and,Bool.or_true,Bool.true_or,Bool.false_or,Bool.or_false,Bool.and_self,Bool.or_self]) (fF)
 have F:=aI @lY (aI h1_6 h1_10);iterate 5 refine SF ?_
 refine aE 15 rfl (fun h1_15=>?_) (fun h1_15=>?_)
 ·
  have F:=aI @lY (aI h1_6 (aI h1_10 h1_15));iterate 9 refine SF ?_
  refine T4 ?_;exact key true _ _ _ (by simp only[fQ,gb,h1_6,h1_10,h1_15,Bool.and_true,Bool.and_false,Bool.true_and,Bool.false_and,Bool.or_true,Bool.true_or,Bool.false_or,Bool.or_false,Bool.and_self,Bool.or_self]) (fF)
 have F:=aI @lY (aI h1_6 (aI h1_10 h1_15));iterate 5 refine SF ?_
 refine aE 20 rfl (fun h1_20=>?_) (fun h1_20=>?_)
 ·
  have F:=aI @lY (aI h1_6 (aI h1_10 (aI h1_15 h1_20)));iterate 4 refine SF ?_
  refine T4 ?_;exact key true _ _ _ (by simp only[fQ,gb,h1_6,h1_10,h1_15,h1_20,Bool.and_true,Bool.and_false,Bool.true_and,Bool.false_and,Bool.or_true,Bool.true_or,Bool.false_or,Bool.or_false,Bool.and_self,Bool.or_self]) (fF)
 have F:=aI @lY (aI h1_6 (aI h1_10 (aI h1_15 h1_20)));iterate 4 refine SF ?_
 refine aE 25 rfl (fun h1_25=>?_) (fun h1_25=>?_)
 · simp only[h1_25];refine T4 ?_;exact key true _ _ _ (by simp only[fQ,gb,h1_6,h1_10,h1_15,h1_20,h1_25,Bool.and_true,Bool.and_false,Bool.true_and,Bool.false_and,Bool.or_true,Bool.true_or,Bool.false_or,Bool.or_false,Bool.and_self,Bool.or_self]) (fF)
 simp only[h1_25];refine T4 ?_;exact key false _ _ _ (by simp only[fQ,gb,h1_6,h1_10,h1_15,h1_20,h1_25,Bool.and_true,Bool.and_false,Bool.true_and,Bool.false_and,Bool.or_true,Bool.true_or,Bool.false_or,Bool.or_false,Bool.and_self,Bool.or_self]) (fF)
theorem qR (c:UInt8):cA Tryz.prog 103 [.int .u8 c.toNat] (fun v=>v= .bool (cN c)):=by
 refine FW Tryz.func103 ?_;refine R0 ?_;refine aC fun K hK=>Rg ?_;iterate 3 refine S0 ?_
 refine aE 4 rfl (fun h1_4=>?_) (fun h1_4=>?_)
 ·
  have F:=h1_4;iterate 4 refine SF ?_
  refine aE 7 rfl (fun h1_7=>?_) (fun h1_7=>?_)
  ·
   have F:=aI h1_4 h1_7;iterate 4 refine SF ?_
   refine T2 (hK _ _ _ ?_);clear hK K;refine aF (RT Tryz.results103 ?_);refine aJ [] (.bool _) rfl ?_;simp[h1_4,h1_7,cN];all_goals first|rfl|simp_all|omega
  have F:=aI h1_4 h1_7;iterate 4 refine SF ?_
  refine T2 (hK _ _ _ ?_);clear hK K;refine aF (RT Tryz.results103 ?_);refine aJ [] (.bool _) rfl ?_;simp[h1_4,h1_7,cN];all_goals first|rfl|simp_all|omega
 have F:=h1_4;iterate 8 refine SF ?_
 refine T2 (hK _ _ _ ?_);clear hK K;refine aF (RT Tryz.results103 ?_);refine aJ [] (.bool _) rfl ?_;simp[h1_4,cN];all_goals first|rfl|simp_all|omega
theorem bE2 (c:UInt8):cA Tryz.prog 93 [.int .u8 c.toNat] (fun v=>v= .bool (cN c)):=by
 refine FW Tryz.func93 ?_;refine R0 ?_;refine aC fun K hK=>Rg ?_;iterate 3 refine S0 ?_
 refine aE 4 rfl (fun h1_4=>?_) (fun h1_4=>?_)
 ·
  have F:=h1_4;iterate 4 refine SF ?_
  refine aE 7 rfl (fun h1_7=>?_) (fun h1_7=>?_)
  ·
   have F:=aI h1_4 h1_7;iterate 4 refine SF ?_
   refine T2 (hK _ _ _ ?_);clear hK K;refine aF (RT Tryz.results93 ?_);refine aJ [] (.bool _) rfl ?_;simp[h1_4,h1_7,cN];all_goals first|rfl|simp_all|omega
  have F:=aI h1_4 h1_7;iterate 4 refine SF ?_
  refine T2 (hK _ _ _ ?_);clear hK K;refine aF (RT Tryz.results93 ?_);refine aJ [] (.bool _) rfl ?_;simp[h1_4,h1_7,cN];all_goals first|rfl|simp_all|omega
 have F:=h1_4;iterate 8 refine SF ?_
 refine T2 (hK _ _ _ ?_);clear hK K;refine aF (RT Tryz.results93 ?_);refine aJ [] (.bool _) rfl ?_;simp[h1_4,cN];all_goals first|rfl|simp_all|omega
theorem aY1 (w:aH)(hl:w.length<2^40):cA Tryz.prog 80 [.str w] (fun v=>v= .int .i64 (sizeW w:Nat)):=by
 refine FW Tryz.func80 ?_;refine R0 ?_;refine R0 ?_;refine aC fun K hK=>?_;refine R0 ?_;refine aM ?_;refine bI (α:={i:Nat//i≤w.length}) (fun i=>(fin [(0,.c (.str w)),(3,.c (.int .i64 (cO (w.take i.1)).length)),(4,.c (.int .i64 i.1))],fob [])) 100 (fun i=>w.length-i.1) ⟨0,by omega⟩ (fF) ?_;rintro⟨i,hi⟩;have hle:=kQ w i;have hle3:=qG w;refine aC fun K hK=>?_;refine aC fun K hK=>Rg ?_;iterate 4 refine S0 ?_
 refine T2 (hK _ _ _ ?_);clear hK K;refine aG (b:=decide ((i:Int)<w.length)) rfl (fun hb=>?_) (fun hb=>?_)
 ·
  have hlt:i<w.length:=by simpa using hb
  have hgd:w.getD i 0=w[i]:=by simp[hlt]
  have hs:=pJ hlt;refine aK ?_;refine T0 (hK _ _ _ ?_);clear hK K;refine aC fun K hK=>?_;refine aM ?_;have F:=IntWalk.i64_in _ (show-9223372036854775808≤((cO (w.take i)).length:Int)+1∧((cO (w.take i)).length:Int)+1≤9223372036854775807 by omega);refine RF ?_;refine aC fun K hK=>Rg ?_;iterate 3 refine S0 ?_ (e:=fun _ h_=>by simp only[sH,↓sP,sA,tyS,simprocAttr,Int.natCast_nonneg,Int.ofNat_lt,hlt,hgd];exact AX h_)
  refine HS rfl rfl fun K' hK'=>?_;simp only[sH,↓sP,sA,tyS,simprocAttr,Int.natCast_nonneg,Int.ofNat_lt,hlt,hgd];refine C1 (qR w[i]) ?_;rintro u rfl;refine AX (hK' _ _ ?_);clear hK' K';refine S0 ?_ (e:=fun _ h_=>by simp only[sH,↓sP,sA,tyS,simprocAttr,Int.natCast_nonneg,Int.ofNat_lt,hlt,hgd];exact AX h_);refine T2 (hK _ _ _ ?_);clear hK K;refine aG (b:=!cN w[i]) rfl (fun hb=>?_) (fun hb=>?_)
  ·
   refine aN (by kernel_rfl) ?_;refine TQ (IntWalk.i64_in _ (show-9223372036854775808≤((cO (w.take i)).length:Int)+1+2∧((cO (w.take i)).length:Int)+1+2≤9223372036854775807 by omega)) ?_;refine AX (hK _ _ _ ?_);clear hK K;refine aN (by kernel_rfl) ?_;refine TQ (jB i) ?_;have hp:cN w[i]=false:=by simpa using hb
   have he:((cO (w.take i)).length:Int)+1+2=((cO (w.take (i+1))).length:Int):=by
    rw[hs,List.length_append,jA,if_neg (by rw[hp];simp)];simp;omega
   simp only[he];refine⟨⟨i+1,hlt⟩,fF,?_⟩;show w.length-(i+1)<w.length-i;omega
  refine aK ?_;refine T0 (hK _ _ _ ?_);clear hK K;refine aN (by kernel_rfl) ?_;refine TQ (jB i) ?_;have hp:cN w[i]=true:=by simpa using hb
  have he:((cO (w.take i)).length:Int)+1=((cO (w.take (i+1))).length:Int):=by
   rw[hs,List.length_append,jA,if_pos hp];simp
  simp only[he];refine⟨⟨i+1,hlt⟩,fF,?_⟩;show w.length-(i+1)<w.length-i;omega
 refine bD (T3 ?_);clear hK K;refine AX (hK _ _ _ ?_);clear hK K;have F:=@cL7;refine RF ?_;refine aF (RT Tryz.results80 ?_);have hei:i=w.length:=by simp at hb;omega
 subst hei;exact aJ [] (.int .i64 (sizeW w:Nat)) (by rw[List.take_length];rfl) rfl
theorem aY2 (w:aH)(hl:w.length<2^40):cA Tryz.prog 81 [.str w] (fun v=>v= .str (gX w)):=by
 refine FW Tryz.func81 ?_;refine R0 ?_;refine aC fun K hK=>?_;refine R0 ?_;refine aG (b:=w==[]) rfl (fun hb=>?_) (fun hb=>?_)
 · refine R0 ?_;refine aF (RT Tryz.results81 ?_);exact aJ [] (.str [126]) rfl (by rw[gX,if_pos (by simpa using hb)])
 refine aK ?_;refine T0 (hK _ _ _ ?_);clear hK K;have hne:w≠[]:=by simpa using hb
 have hz:(sizeW w:Int)≤140737488355328:=by have:=nG w;omega
 clear hb;refine aC fun K hK=>Rg ?_;have F:=aI @Int.natCast_nonneg (aI hz @Int.mul_one);refine SF ?_;refine HS rfl rfl fun K' hK'=>T6 ?_;refine C1 (aY1 w hl) ?_;rintro u rfl;refine AX (hK' _ _ ?_);clear hK' K';iterate 2 refine SF ?_
 refine T2 (hK _ _ _ ?_);clear hK K;refine aC fun K hK=>?_;refine R0 ?_;refine aM ?_;refine bI (α:={i:Nat//i≤w.length}) (fun i=>(fin [(0,.c (.str w)),(3,.own 20 (cO (w.take i.1)).length),(4,.c (.int .i64 i.1))],fob [(20,.row 5 1 ((cO (w.take i.1)).map dF))])) 100 (fun i=>w.length-i.1) ⟨0,by omega⟩ (fF) ?_;rintro⟨i,hi⟩;have hle:=kQ w i;have hle3:=qG w;refine aC fun K hK=>?_;refine aC fun K hK=>Rg ?_;iterate 4 refine S0 ?_
 refine T2 (hK _ _ _ ?_);clear hK K;refine aG (b:=decide ((i:Int)<w.length)) rfl (fun hb=>?_) (fun hb=>?_)
 ·
  have hlt:i<w.length:=by simpa using hb
  have hgd:w.getD i 0=w[i]:=by simp[hlt]
  have hs:=pJ hlt;refine aK ?_;refine T0 (hK _ _ _ ?_);clear hK K;refine aC fun K hK=>?_;refine aM ?_;refine aC fun K hK=>Rg ?_;iterate 3 refine S0 ?_ (e:=fun _ h_=>by simp only[sH,↓sP,sA,tyS,simprocAttr,Int.natCast_nonneg,Int.ofNat_lt,hlt,hgd];exact AX h_)
  refine HS rfl rfl fun K' hK'=>?_;simp only[sH,↓sP,sA,tyS,simprocAttr,Int.natCast_nonneg,Int.ofNat_lt,hlt,hgd];refine C1 (qR w[i]) ?_;rintro u rfl;refine AX (hK' _ _ ?_);clear hK' K';refine T2 (hK _ _ _ ?_);clear hK K;refine aG (b:=cN w[i]) rfl (fun hb=>?_) (fun hb=>?_)
  ·
   refine Rg ?_;iterate 7 refine S0 ?_ (e:=fun _ h_=>by simp only[sH,↓sP,sA,tyS,simprocAttr,Int.natCast_nonneg,Int.ofNat_lt,hlt,hgd,List.length_append,List.length_map];exact AX h_)
   refine T2 (hK _ _ _ ?_);clear hK K;refine aN (by kernel_rfl) ?_;refine TQ (jB i) ?_;refine⟨⟨i+1,hlt⟩,aL (by omega) ?_ ?_,?_⟩
   · rw[hs,jA,if_pos hb];simp[aS,upd_at,fin_at,HV.men]
   · rw[hs,jA,if_pos hb,List.map_append];exact⟨rfl,by omega,trivial,trivial⟩
   show w.length-(i+1)<w.length-i;omega
  have h16:((w[i].toNat/16:Nat):Int)<16:=by have:=w[i].toNat_lt;omega
  have h15:((w[i].toNat%16:Nat):Int)<16:=by omega
  refine DW [(0,[],[]),(1,[],[]),(2,[],[]),(3,[],[]),(4,[],[]),(5,[],[]),(6,[],[]),(7,[],[]),(8,[],[]),(9,[],[]),(10,[],[]),(11,[],[]),(12,[],[]),(13,[],[])] [0,0,0,6,14,30,0,0,192,448,960,2046,4095,8191] ?_;iterate 14 refine W0 ?_ (e:=fun _ h_=>by simp only[sH,↓sP,sA,tyS,simprocAttr,Int.natCast_nonneg,Int.ofNat_lt,hlt,hgd,List.length_append,List.length_map,cI2,cB8,h16,h15];exact AX h_)
  refine T2 (hK _ _ _ ?_);clear hK K;refine aN (by kernel_rfl) ?_;refine TQ (jB i) ?_;refine⟨⟨i+1,hlt⟩,aL (by omega) ?_ ?_,?_⟩
  · rw[hs,jA,if_neg (by rw[hb];simp)];simp[aS,upd_at,fin_at,HV.men]
  · rw[hs,jA,if_neg (by rw[hb];simp),List.map_append];exact⟨rfl,by omega,trivial,trivial⟩
  show w.length-(i+1)<w.length-i;omega
 refine bD (T3 ?_);clear hK K;refine AX (hK _ _ _ ?_);clear hK K;refine dA [20] (bF (fr2:=fin [(3,.c (.slc ((cO (w.take i)).map dF)))]) (ob2:=fob []) (nx2:=200) (aL (by omega) (by simp[aS,dI,fin_at,finA_at,upd_at,fob_at,HV.close,HV.closeL,CV.denil,CV.denilL,cX,HV.men,HV.menL,HV.norm,HV.toC,HV.toCL]) (by simp[aT,dJ,fob_at,upd_at,none0_at,bL,HO.close,HV.close,HV.closeL,HO.men,HV.men,HV.menL,HV.norm,HV.toC,HV.toCL])) ?_);have F:=@bytesC_map;refine RF ?_;refine aF (RT Tryz.results81 ?_);have hei:i=w.length:=by simp at hb;omega
 subst hei;exact aJ [] (.str (cO w)) (by rw[List.take_length];rfl) (by rw[gX,if_neg hne])
end Go.Proofs.YtlldglbooaefhaaGreatDoor
