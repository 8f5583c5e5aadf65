/- Pieces of a string (strings.Split), in plain Lean. By an AI agent. -/
import Derived.Test.YthedbjfipmkpiaaGreatDoorHdSb
import Derived.Test.YthedbjfipmkpiaaGreatDoorPl18e
import Derived.Test.YthedbjfipmkpiaaGreatDoorHlIt
import Derived.Test.YthedbjfipmkpiaaGreatDoorHlEs
import Derived.Maps.RangeRun
import Derived.Test.YthedbjfipmkpiaaGreatDoorHlK
import Derived.Laws.Externs
import Derived.Lib.BytesEntry
import Derived.Test.YthedbjfipmkpiaaGreatDoorPl31
set_option linter.unusedSimpArgs false
set_option linter.unusedVariables false
set_option linter.defProp false
namespace Go.Proofs.YthedbjfipmkpiaaGreatDoor
open Go Go.Hl Go.Pl
def rI :=(And.intro (And.intro (And.intro @rpost_exit (And.intro @rpost_normal @rpost_ret)) (And.intro @hscope_exit (And.intro @hscope_normal @hscope_ret))) (And.intro (And.intro @ithen_normal (And.intro @ithen_exit @ithen_ret)) (And.intro @iblk_normal (And.intro @iblk_exit @iblk_ret))))
section
variable {n k nx i:Nat}{ops:Array Oper}{o:Oper}{g:Option (Nat×Bool)}{fr fr':Fr}{ob ob':Ob}
theorem T0 {a b:Prop}(h:b)(e:b→a:=by intro h;simp only[↓sP,sA,tyS,simprocAttr];(repeat refine AI ?_);exact h):a:=e h
theorem T2 {a b:Prop}(h:b)(e:b→a:=by intro h;simp only[sE,↓reduceIte,simprocAttr];(repeat refine AI ?_);exact h):a:=e h
theorem AX {a b:Prop}(h:b)(e:b→a:=by intro h;(repeat refine AI ?_);exact h):a:=e h
theorem fF {l:List (Nat×HV)}{h:List (Nat×HO)}{nx2:Nat}(hk:k≤nx2:=by omega)(h1:aW nx2 fr l:=by simp[aW,fin_at,finA_at,upd_at,HV.men,HV.menL,HV.norm,HV.toC,HV.toCL])
    (h2:aX nx2 ob h:=by simp[aX,fob_at,upd_at,none0_at,bT,HO.men,HV.men,HV.menL,HV.norm,HV.toC,HV.toCL]):Fits k fr ob (fin l) (fob h) nx2:=aM hk h1 h2
theorem Rg {id:Nat}{b:Prop}{Q:eM}(h:b)(hd:gD n ops=true:=by kernel_rfl)
    (e:b→hlex Tryz.prog ops nx (fun fr' ob'=>Q .normal fr' ob' (nx+4*ops.size)) (List.range ops.size) fr ob:=by intro h;simp only[sR,simprocAttr];exact h):Hw Tryz.prog n k (.region id ops false) Q fr ob nx:=aD hd (e h)
theorem fA (i:Nat)(h:(i:Int)<9223372036854775807:=by omega):IntKind.i64.wrap ((i:Int)+1)=(i:Int)+1:=IntWalk.i64_in _ ⟨by omega,by omega⟩
theorem R0 {id nx':Nat}{c2:Code}{Q:eM}(h:Hw Tryz.prog n k c2 Q fr' ob' nx')(hd:gD n ops=true:=by kernel_rfl)
    (e: ∀K:Fr→Ob→Nat→Prop,K fr' ob' nx'→hlex Tryz.prog ops nx (fun fr' ob'=>hthen K Q .normal fr' ob' (nx+4*ops.size)) (List.range ops.size) fr ob:=by intro K h;simp only[↓sP,sA,tyS,simprocAttr];(repeat refine AI ?_);exact h):
    Hw Tryz.prog n k (.seq (.region id ops false) c2) Q fr ob nx:=aB fun K hK=>aD hd (e K (hK _ _ _ h))
section
variable {Q:Fr→Ob→Prop}
theorem S0 {l:List Nat}(h:hlex Tryz.prog ops nx Q l fr' ob')(ho:ops[i]? =some o:=by exact rfl)(hg:gd ops o=some g:=by exact rfl)
    (e: ∀K:Fr→Ob→Prop,K fr' ob'→hop1 Tryz.prog (nx+4*i) [] g o.op o.dst K fr ob:=by intro K h;simp only[sH,↓sP,sA,tyS,simprocAttr];(repeat refine AI ?_);exact h):hlex Tryz.prog ops nx Q (i::l) fr ob:=
  aE ho hg fun K hK=>e K (hK _ _ h)
theorem SG0 {l:List Nat}(h:hlexG Tryz.prog ops nx Q l fr' ob')(ho:ops[i]? =some o:=by exact rfl)(hg:gd ops o=some g:=by exact rfl)
    (e: ∀K:Fr→Ob→Prop,K fr' ob'→hop1 Tryz.prog (nx+4*i) [] g o.op o.dst K fr ob:=by intro K h;simp only[sH,↓sP,sA,tyS,simprocAttr];(repeat refine AI ?_);exact h):hlexG Tryz.prog ops nx Q (i::l) fr ob:=
  aZ ho hg fun K hK=>e K (hK _ _ h)
variable {cr rd:List Nat}{l:oB}{C:kH}
theorem W0 (h:hwalk2 Tryz.prog ops nx Q l (if isEff o.op=true then C else(i,if hgd g fr=some true then touch o.op (ev fr)else [])::C) fr' ob')(ho:ops[i]? =some o:=by exact rfl)(hg:gd ops o=some g:=by exact rfl)
    (e: ∀K:Fr→Ob→Prop,K fr' ob'→hop1 Tryz.prog (nx+4*i) (cr.flatMap (ids4 nx)++rd.flatMap (getF C)) g o.op o.dst K fr ob:=by intro K h;simp only[sH,↓sP,sA,tyS,simprocAttr];(repeat refine AI ?_);exact h):hwalk2 Tryz.prog ops nx Q ((i,cr,rd)::l) C fr ob:=
  bL ho hg fun K hK=>e K (hK _ _ h)
theorem WG0 (h:hwalk2G Tryz.prog ops nx Q l (if isEff o.op=true then C else(i,if hgd g fr=some true then touch o.op (ev fr)else [])::C) fr' ob')(ho:ops[i]? =some o:=by exact rfl)(hg:gd ops o=some g:=by exact rfl)
    (e: ∀K:Fr→Ob→Prop,K fr' ob'→hop1 Tryz.prog (nx+4*i) (cr.flatMap (ids4 nx)++rd.flatMap (getF C)) g o.op o.dst K fr ob:=by intro K h;simp only[sH,↓sP,sA,tyS,simprocAttr];(repeat refine AI ?_);exact h):hwalk2G Tryz.prog ops nx Q ((i,cr,rd)::l) C fr ob:=
  cF ho hg fun K hK=>e K (hK _ _ h)
end
theorem nM {α:Type}{l:List α}{i:Nat}(h:i<l.length)(f:α→CV):nth (l.map f) i=f l[i]:=bP h
theorem aI {a b:Prop}(x:a)(y:b):a∧b:=⟨x,y⟩
theorem TQ {a b q:Prop}(r:q)(h:b)(e:q→b→a:=by intro r h;simp only[↓sP,sA,tyS,simprocAttr,r];exact h):a:=e r h
theorem T6 {a b:Prop}(h:b)(e:b→a:=by intro h;simp only[sH,↓sP,sA,tyS,simprocAttr,F];exact h):a:=e h
section
variable {Q:Fr→Ob→Prop}
theorem SF {l:List Nat}(h:hlex Tryz.prog ops nx Q l fr' ob')(ho:ops[i]? =some o:=by exact rfl)(hg:gd ops o=some g:=by exact rfl)
    (e: ∀K:Fr→Ob→Prop,K fr' ob'→hop1 Tryz.prog (nx+4*i) [] g o.op o.dst K fr ob:=by intro K h;simp only[sH,↓sP,sA,tyS,simprocAttr,F];(repeat refine AI ?_);exact h):hlex Tryz.prog ops nx Q (i::l) fr ob:=
  aE ho hg fun K hK=>e K (hK _ _ h)
variable {cr rd:List Nat}{l:oB}{C:kH}
theorem WF (h:hwalk2 Tryz.prog ops nx Q l (if isEff o.op=true then C else(i,if hgd g fr=some true then touch o.op (ev fr)else [])::C) fr' ob')(ho:ops[i]? =some o:=by exact rfl)(hg:gd ops o=some g:=by exact rfl)
    (e: ∀K:Fr→Ob→Prop,K fr' ob'→hop1 Tryz.prog (nx+4*i) (cr.flatMap (ids4 nx)++rd.flatMap (getF C)) g o.op o.dst K fr ob:=by intro K h;simp only[sH,↓sP,sA,tyS,simprocAttr,F];(repeat refine AI ?_);exact h):hwalk2 Tryz.prog ops nx Q ((i,cr,rd)::l) C fr ob:=
  bL ho hg fun K hK=>e K (hK _ _ h)
theorem WGF (h:hwalk2G Tryz.prog ops nx Q l (if isEff o.op=true then C else(i,if hgd g fr=some true then touch o.op (ev fr)else [])::C) fr' ob')(ho:ops[i]? =some o:=by exact rfl)(hg:gd ops o=some g:=by exact rfl)
    (e: ∀K:Fr→Ob→Prop,K fr' ob'→hop1 Tryz.prog (nx+4*i) (cr.flatMap (ids4 nx)++rd.flatMap (getF C)) g o.op o.dst K fr ob:=by intro K h;simp only[sH,↓sP,sA,tyS,simprocAttr,F];(repeat refine AI ?_);exact h):hwalk2G Tryz.prog ops nx Q ((i,cr,rd)::l) C fr ob:=
  cF ho hg fun K hK=>e K (hK _ _ h)
end
section
variable {Q:Fr→Ob→Prop}
theorem SGF {l:List Nat}(h:hlexG Tryz.prog ops nx Q l fr' ob')(ho:ops[i]? =some o:=by exact rfl)(hg:gd ops o=some g:=by exact rfl)
    (e: ∀K:Fr→Ob→Prop,K fr' ob'→hop1 Tryz.prog (nx+4*i) [] g o.op o.dst K fr ob:=by intro K h;simp only[sH,↓sP,sA,tyS,simprocAttr,F];(repeat refine AI ?_);exact h):hlexG Tryz.prog ops nx Q (i::l) fr ob:=
  aZ ho hg fun K hK=>e K (hK _ _ h)
end
theorem RF {id nx':Nat}{c2:Code}{Q:eM}(h:Hw Tryz.prog n k c2 Q fr' ob' nx')(hd:gD n ops=true:=by kernel_rfl)
    (e: ∀K:Fr→Ob→Nat→Prop,K fr' ob' nx'→hlex Tryz.prog ops nx (fun fr' ob'=>hthen K Q .normal fr' ob' (nx+4*ops.size)) (List.range ops.size) fr ob:=by intro K h;simp only[↓sP,sA,tyS,simprocAttr,F];(repeat refine AI ?_);exact h):
    Hw Tryz.prog n k (.seq (.region id ops false) c2) Q fr ob nx:=aB fun K hK=>aD hd (e K (hK _ _ _ h))
theorem RT {a b:Prop}{x y:Array ResultVar}(r:x=y)(h:b)(e:x=y→b→a:=by intro r h;simp only[bS,r,bN,bR,bM,↓sP,sA,tyS,simprocAttr];exact h):a:=e r h
theorem T3 {a b:Prop}(h:b)(e:b→a:=by intro h;simp only[↓sP,sA,tyS,simprocAttr];exact h):a:=e h
theorem T4 {a b:Prop}(h:b)(e:b→a:=by intro h;simp only[sE,↓reduceIte,simprocAttr];exact h):a:=e h
theorem T5 {a b:Prop}(h:b)(e:b→a:=by intro h;simp only[sH,↓sP,sA,tyS,simprocAttr];exact h):a:=e h
theorem CT {x y:Code}{o:Operand}{Q:eM}(hb:ev fr o= .c (.bool true))(h:Hw Tryz.prog n k x Q fr ob nx):Hw Tryz.prog n k (.cond o x y) Q fr ob nx:=aH hb (fun _=>h) (fun hb=>by cases hb)
theorem CF {x y:Code}{o:Operand}{Q:eM}(hb:ev fr o= .c (.bool false))(h:Hw Tryz.prog n k y Q fr ob nx):Hw Tryz.prog n k (.cond o x y) Q fr ob nx:=aH hb (fun hb=>by cases hb) (fun _=>h)
theorem FW {P:Program}{f:FuncId}{fn:Func}{code:Code}{args:List HV}{R:HV→Ob→Prop}(hf:P.funcs[f]? =some fn)(h:Hw P fn.ntmps k code (bS P fn.results.toList k R) (sB 0 args) ob k)(hb:fn.body=some code:=by exact rfl)
    (hok:eO P f=true:=by kernel_rfl) (hloc:LocOk k args ob:=by exact dT _) (hn:args.length≤fn.ntmps:=by exact Nat.le_of_ble_eq_true rfl):HFn P f args k ob R:=cI hf hb hok hloc hn h
theorem QR {id:Nat}{b:Prop}{Q:eM}(h:b)(hd:gD n ops=true:=by kernel_rfl)(hp:lR ops (List.range ops.size) (Array.replicate ops.size false)=true:=by kernel_rfl)(hq:ops.all (fun o=>cC o.op)=true:=by kernel_rfl)
    (e:b→hlex Tryz.prog ops nx (fun fr' ob'=>Q .normal fr' ob' (nx+4*ops.size)) (List.range ops.size) fr ob:=by intro h;simp only[sR,simprocAttr];exact h):Hw Tryz.prog n k (.region id ops true) Q fr ob nx:=yA mixed hd hp hq (e h)
theorem DW {id:Nat}{Q:eM}(plan:oB)(ms:List Nat)(h:hwalk2 Tryz.prog ops nx (fun fr' ob'=>Q .normal fr' ob' (nx+4*ops.size)) plan [] fr ob)(hd:gD n ops=true:=by kernel_rfl)(hp:lR ops (plan.map (·.1)) (Array.replicate ops.size false)=true:=by kernel_rfl)
    (hw1:aO3 ops ms=true:=by kernel_rfl) (hw2:ms.all (fun m=>decide (m<2^ms.length))=true:=by kernel_rfl) (hl:plan.length=ops.size:=by exact rfl) (hc:chk ops (aJ1 ms) plan []=true:=by kernel_rfl):Hw Tryz.prog n k (.region id ops true) Q fr ob nx:=
  aO9 mixed plan ms hd hp hw1 hw2 hl hc h
theorem HS {l:List Nat}{Q:Fr→Ob→Prop}(ho:ops[i]? =some o)(hg:gd ops o=some none)(h: ∀K:Fr→Ob→Prop,(∀fr ob,hlex Tryz.prog ops nx Q l fr ob→K fr ob)→hop1 Tryz.prog (nx+4*i) [] none o.op o.dst K fr ob):hlex Tryz.prog ops nx Q (i::l) fr ob:=aE ho hg h
section
variable {P:Program}{av:List Nat}{f:FuncId}{nid:Nat}{K:HV→Ob→Prop}{a b c d:CV}{R:CV→Prop}{R2:CV→CV→Prop}
theorem C1 (h:cJ P f [a] R)(hK: ∀v,R v→K (.c v) ob)(hf:ob nid=none∧ob (nid+1)=none∧ob (nid+2)=none∧ob (nid+3)=none:=by exact⟨rfl,rfl,rfl,rfl⟩):HCall P av f [.c a] ob nid K:=dN (args:=[a]) h hf hK
theorem C2 (h:cJ P f [a,b] R)(hK: ∀v,R v→K (.c v) ob)(hf:ob nid=none∧ob (nid+1)=none∧ob (nid+2)=none∧ob (nid+3)=none:=by exact⟨rfl,rfl,rfl,rfl⟩):HCall P av f [.c a,.c b] ob nid K:=dN (args:=[a,b]) h hf hK
theorem C3 (h:cJ P f [a,b,c] R)(hK: ∀v,R v→K (.c v) ob)(hf:ob nid=none∧ob (nid+1)=none∧ob (nid+2)=none∧ob (nid+3)=none:=by exact⟨rfl,rfl,rfl,rfl⟩):HCall P av f [.c a,.c b,.c c] ob nid K:=dN (args:=[a,b,c]) h hf hK
theorem C4 (h:cJ P f [a,b,c,d] R)(hK: ∀v,R v→K (.c v) ob)(hf:ob nid=none∧ob (nid+1)=none∧ob (nid+2)=none∧ob (nid+3)=none:=by exact⟨rfl,rfl,rfl,rfl⟩):HCall P av f [.c a,.c b,.c c,.c d] ob nid K:=dN (args:=[a,b,c,d]) h hf hK
theorem D1 (h:eU P f [a] R2)(hK: ∀u v,R2 u v→K (.tup [.c u,.c v]) ob)(hf:Free4 ob nid:=by exact⟨rfl,rfl,rfl,rfl⟩):HCall P av f [.c a] ob nid K:=iK (args:=[a]) h hf hK
theorem D2 (h:eU P f [a,b] R2)(hK: ∀u v,R2 u v→K (.tup [.c u,.c v]) ob)(hf:Free4 ob nid:=by exact⟨rfl,rfl,rfl,rfl⟩):HCall P av f [.c a,.c b] ob nid K:=iK (args:=[a,b]) h hf hK
end
section
variable {Q:Fr→Ob→Prop}{l:List Nat}{f:FuncId}{args:List CV}{t:CV}{R:CV→Prop}{ff:HV→Fr}
end
structure Bx (b:Prop):Prop where
  o:b
end
end Go.Proofs.YthedbjfipmkpiaaGreatDoor
namespace Go.Hl
open Go
open Go.ChangeMaps (setBlock heap_setBlock_same heap_setBlock_other)
section
variable {P:Program}{n k:Nat}{ops:Array Oper}{nx i:Nat}{Kf:Fr→Ob→Prop}{fr:Fr}{ob:Ob}
def Lx (P:Program)(n k:Nat)(ops:Array Oper)(nx:Nat)(Kf:Fr→Ob→Prop)(i:Nat)(fr:Fr)(ob:Ob):Prop:=
 ∀(c:Ctx) (a:Act) (w:World) (Q:Exit→Act→World→Prop),c.n=n→c.M0=(· <k)→(∀fr' ob' a' w',Kf fr' ob'→RepA c (· <nx+4*ops.size) fr' ob' a' w'→Q .normal a' w')→RepA c (· <nx+4*i) fr ob a w→wpOpsIn c.F 0 P ops Q (List.range' i (ops.size-i)) a w
theorem bE0 {id:Nat}{Q:eM}(h:Lx P n k ops nx (fun fr' ob'=>Q .normal fr' ob' (nx+4*ops.size)) 0 fr ob):Hw P n k (.region id ops false) Q fr ob nx:=by
 intro c a w hn hk hz hA;refine wpIn_region ?_;rw[List.range_eq_range'];exact h c a w _ hn hk (fun fr' ob' a' w' hK hA'=>⟨fr',ob',_,hK,hA'⟩) hA
theorem yQ (hi:i=ops.size)(h:Kf fr ob):Lx P n k ops nx Kf i fr ob:=by
 subst hi;intro c a w Q hn hk hQ hA;simp only[Nat.sub_self,List.range'_zero,wpOpsIn];exact hQ _ _ _ _ h hA
theorem aR0 {o:Oper}{g:Option (Nat×Bool)}(hd:gD n ops=true)(ho:ops[i]? =some o)(hg:gd ops o=some g)(h: ∀K:Fr→Ob→Prop,(∀fr ob,Lx P n k ops nx Kf (i+1) fr ob→K fr ob)→hop1 P (nx+4*i) [] g o.op o.dst K fr ob):Lx P n k ops nx Kf i fr ob:=by
 intro c a w Q hn hk hQ hA;have hi:i<ops.size:=(Array.getElem?_eq_some_iff.1 ho).1;rw[show ops.size-i=(ops.size-(i+1))+1 by omega,List.range'_succ,wpOpsIn_cons];have hI:=uH (fun _ _ x=>x) (mD ho hg (h _ (fun _ _ x=>x)));refine wpOpIn_mono (fun a' w' hx=>?_) (lE (Q:=Q) (M':=(· <nx+4*(i+1))) hA (fun t ht=>by omega) (fun i hi=>by omega) (fun t ht=>by omega) (by rw[hn];exact iH hd) hI);obtain⟨fr',ob',hK,hA'⟩:=hx;exact hK c a' w' Q hn hk hQ hA'
theorem yR {o:Oper}(hd:gD n ops=true)(ho:ops[i]? =some o)(hg:o.guard=none)(hn0: ∀c,o.op≠ .defer c)
  (h: ∀(c:Ctx) (a:Act) (w:World) (ρ:Env),RepA' c (· <nx+4*i) fr ob a w ρ→(∀t,o.dst=some t→t<c.n)→ ∃y w' fr' ob',((execOp a.eval o).run P w= .ok (.value y) w'∨((execOp a.eval o).run P w= .ok .skip w'∧y=undef))∧Lx P n k ops nx Kf (i+1) fr' ob'∧RepA c (· <nx+4*(i+1)) fr' ob' (a.put o.dst y) w'):Lx P n k ops nx Kf i fr ob:=by
 intro c a w Q hn hk hQ hA;have hi:i<ops.size:=(Array.getElem?_eq_some_iff.1 ho).1;rw[show ops.size-i=(ops.size-(i+1))+1 by omega,List.range'_succ,wpOpsIn_cons];obtain⟨ρ,hA⟩:=hA;unfold wpOpIn;rw[ho];simp only;rw[if_pos (by unfold Region.wanted;rw[hg])];obtain⟨y,w',fr',ob',hrun,hL,hA'⟩:=h c a w ρ hA (fun t ht=>by rw[hn];exact iH hd o (Array.mem_of_getElem? ho) t ht);refine⟨fun _ _=>trivial,?_⟩;rw[Oper.semAt_eq _ _ _ hn0];rcases hrun with hrun|⟨hrun,rfl⟩
 · rw[hrun];exact hL c _ w' Q hn hk hQ hA'
 · rw[hrun];exact hL c _ w' Q hn hk hQ hA'
section
variable {c:Ctx}{M:Nat→Prop}{a:Act}{w:World}{ρ:Env}
theorem cN2 (h:RepA' c M fr ob a w ρ){x:Operand}{id m:Nat}(hx:ev fr x= .ptr id 0){s q:Nat}{seen:Array Nat}(ho:ob id=some (.it m s seen q)){es:Array MapEntry}{ck:Nat}(hm:ob m=some (.raw es ck)):
  ∃b bm,ρ id=some (.blk b)∧a.eval x= .pointer (some ⟨b,0,none⟩)∧w.heap[b]? =some (.mapIter (some bm) s seen q)∧w.heap[bm]? =some (.map es ck)∧ρ m=some (.mp bm fun _=>none):=by
 obtain⟨y,he,h1,hp⟩:=bR7 h hx;obtain⟨b,x',h2,h3,h4⟩:=h.s.objs id _ ho;obtain⟨bm,h5,h6⟩:=h.s.objs m _ hm;have:=h4 _ _ h5;subst this;exact⟨b,x',h2,by grind,h3,h6,h5⟩
end
theorem aZ3 {o:Oper}{t:TypeId}{d:Nat}(hd:gD n ops=true)(ho:ops[i]? =some o)(hg:o.guard=none)(hop:o.op= .makeMap t none)(hdst:o.dst=some d)
  (h:Lx P n k ops nx Kf (i+1) (upd fr d (.mapr (nx+4*i))) (upd ob (nx+4*i) (some (.raw (iG []) 0)))):Lx P n k ops nx Kf i fr ob:=by
 refine yR hd ho hg (by rw[hop];intro c hc;cases hc) fun c a w ρ hA hdd=>?_;have:=hA.newObj (d:=o.dst) (w1:=w) (obj:= .map #[] 0) (nid:=nx+4*i) (M':=(· <nx+4*(i+1))) (v:= .mapr (nx+4*i)) (x:= .map (some w.heap.size)) (L:= .mp w.heap.size (fun _=>none)) (o:= .raw (iG []) 0) (by omega) (fun j hj=>by omega) (by omega) rfl rfl rfl rfl ?_ (fun _=>?_) trivial (.inr ?_) (by simp only[HV.men];omega) hdd
 · simp only[hdst]at this⊢;exact⟨.map (some w.heap.size),w.alloc (.map #[] 0),_,_,.inl (by simp only[execOp,hop];rfl),h,⟨_,this⟩⟩
 ·
  rintro b (hb|⟨k,v,e1,e2⟩)
  · exact hb
  · cases e1
 · exact⟨_,aT _ _ _,heap_alloc_new w _⟩
 · refine dC ?_ rfl rfl;simp only[RepH];refine⟨_,rfl,by simp[Value.oneCell'],fun b hf hρ=>?_⟩;rw[aT]at hρ;cases hρ;rfl
theorem bV5 {o:Oper}{t kt et:TypeId}{x:Operand}{d id:Nat}{es:Array MapEntry}{ck:Nat}(hd:gD n ops=true)(ho:ops[i]? =some o)(hg:o.guard=none)(hop:o.op= .range t x)(hdst:o.dst=some d)
  (hut:P.underlying t=some (.map kt et)) (hx:ev fr x= .mapr id) (hob:ob id=some (.raw es ck))
  (h:Lx P n k ops nx Kf (i+1) (upd fr d (.ptr (nx+4*i) 0)) (upd ob (nx+4*i) (some (.it id ck #[] ck)))):Lx P n k ops nx Kf i fr ob:=by
 refine yR hd ho hg (by rw[hop];intro c hc;cases hc) fun c a w ρ hA hdd=>?_;obtain⟨b,h1,h2,h3⟩:=aW6 hA hx hob;have hrun:(execOp a.eval o).run P w= .ok (.value (.pointer (some ⟨w.heap.size,0,none⟩))) (w.alloc (.mapIter (some b) ck #[] ck)):=by
  have e:(newObj (.mapIter (some b) ck #[] ck)).run P w= .ok w.heap.size (w.alloc (.mapIter (some b) ck #[] ck)):=rfl;simp[execOp,hop,h2,Instr.range,run_underlying hut,MapKept.run_getObj_map h3,Result.andThen,e]
 have hid:=(hA.mo id _ hob).1;have:=hA.newObj (d:=o.dst) (w1:=w) (obj:= .mapIter (some b) ck #[] ck) (nid:=nx+4*i) (M':=(· <nx+4*(i+1))) (v:= .ptr (nx+4*i) 0) (x:= .pointer (some ⟨w.heap.size,0,none⟩)) (L:= .blk w.heap.size) (o:= .it id ck #[] ck) (by omega) (fun j hj=>by omega) (by omega) rfl rfl rfl rfl ?_ (fun _=>?_) (by simp only[HO.men];omega) (.inr ?_) (by simp only[HV.men];omega) hdd
 · simp only[hdst]at this⊢;exact⟨_,_,_,_,.inl hrun,h,⟨_,this⟩⟩
 · rintro b hb;exact hb
 · refine⟨_,b,aT _ _ _,heap_alloc_new w _,fun bm hf hρ=>?_⟩;rw[aY _ _ (by omega),h1]at hρ;cases hρ;rfl
 · refine dC ?_ rfl rfl;simp only[RepH];refine⟨_,rfl,by simp[Value.oneCell'],fun b hρ=>?_⟩;rw[aT]at hρ;cases hρ;rfl
theorem mG {o:Oper}{t kt et:TypeId}{m kx vx:Operand}{id:Nat}{l:List (Int×List UInt8)}{z:Int}{s:List UInt8}(hd:gD n ops=true)(ho:ops[i]? =some o)(hg:o.guard=none)(hop:o.op= .insert t m kx vx)(hdst:o.dst=none)
  (hut:P.underlying t=some (.map kt et)) (hkt:P.underlying kt=some (.int .i64)) (hm:ev fr m= .mapr id) (hob:ob id=some (.raw (iG l) l.length)) (hk:ev fr kx= .c (.int .i64 z)) (hv:ev fr vx= .c (.str s)) (hno:lkG l z=none)
  (h:Lx P n k ops nx Kf (i+1) fr (upd ob id (some (.raw (iG (l++[(z,s)])) (l.length+1))))):Lx P n k ops nx Kf i fr ob:=by
 refine yR hd ho hg (by rw[hop];intro c hc;cases hc) fun c a w ρ hA hdd=>?_;obtain⟨b,h1,h2,h3⟩:=aW6 hA hm hob;obtain⟨r,f1,f2⟩:=qM z 0 0 l;rw[hno]at f2;have hr:r=none:=by cases r with|none=>rfl|some x=>simp at f2
 subst hr;have hrun:(execOp a.eval o).run P w= .ok .skip (setBlock w b (.map (iG (l++[(z,s)])) (l.length+1))):=by
  have f3:Instr.findNow (.int .i64) (.int .i64 z) (iG l).toList 0=some none:=by simpa[iG]using f1
  simp[execOp,hop,h2,dR hA hk,lM hA hv,Instr.mapUpdate,run_underlying hut,MapKept.run_getObj_map h3,aW5 hkt,Instr.findKey,run_underlying hkt,f3,MapKept.run_setObj_map _ h3,Result.andThen,setBlock,bI6]
 have hid:=(hA.mo id _ hob).1;have:=hA.setObj (d:=none) (v:= .junk) (x:=undef) (w':=setBlock w b (.map (iG (l++[(z,s)])) (l.length+1))) (o:= .raw (iG (l++[(z,s)])) (l.length+1)) h1 (.inl rfl) hid (fun b' hb'=>heap_setBlock_other h3 _ hb') (by simp[setBlock]) rfl rfl rfl (fun _=>⟨b,h1,heap_setBlock_same h3 _⟩) trivial (fun _=> .inl rfl) (by simp[HV.men]) (fun t ht=>by cases ht);rw[hdst];exact⟨undef,_,_,_,.inr ⟨hrun,rfl⟩,h,⟨_,this.weaken (fun j hj=>by omega)⟩⟩
theorem bL1 {l:List (Int×List UInt8)}: ∀x∈(iG l).toList,x.born<l.length:=fun x hx=>by
 obtain⟨j,hj,rfl⟩:=bD0 0 l x (by simpa[iG]using hx);simpa using hj
theorem cG5 {w:World}{ρ:Env}{O:Nat→Prop}(z:Int)(s:List UInt8):RepV w ρ O (.tup [.c (.int .i64 z),.c (.str s)]) (.tuple #[.int .i64 z,.string ⟨s.toArray⟩]):=by
 refine⟨?_,rfl⟩;simp only[RepH];exact⟨[_,_],rfl,by simp only[RepHV];exact⟨_,_,rfl,bW (by simp[RepC]) rfl rfl,_,_,rfl,bW (by simp[RepC]) rfl rfl,rfl⟩⟩
theorem cG6 {o:Oper}{x:Operand}{d it id:Nat}{l:List (Int×List UInt8)}{seen:Array Nat}(hd:gD n ops=true)(ho:ops[i]? =some o)(hg:o.guard=none)(hop:o.op= .next x false)(hdst:o.dst=some d)
  (hx:ev fr x= .ptr it 0) (hit:ob it=some (.it id l.length seen l.length)) (hid:ob id=some (.raw (iG l) l.length))
  (hdone:(∀j,j<l.length→seen.contains j=true)→Lx P n k ops nx Kf (i+1) (upd fr d (.tup [.c (.bool false)])) ob)
  (hnext: ∀j (hj:j<l.length),seen.contains j=false→Lx P n k ops nx Kf (i+1) (upd fr d (.tup [.c (.bool true),.c (.int .i64 l[j].1),.c (.str l[j].2)])) (upd ob it (some (.it id l.length (seen.push j) l.length)))):Lx P n k ops nx Kf i fr ob:=by
 refine yR hd ho hg (by rw[hop];intro c hc;cases hc) fun c a w ρ hA hdd=>?_;obtain⟨b,bm,h1,h2,h3,h4,h5⟩:=cN2 hA hx hit hid;rcases run_next_at (P:=P) w o.type b bm l.length l.length seen (iG l) l.length h3 h4 bL1 (Nat.le_refl _)with⟨e1,hrun⟩|⟨e,he,w1,hw1,hrun⟩
 ·
  have hall: ∀j,j<l.length→seen.contains j=true:=fun j hj=>by
   have hin:=bS1 0 l j hj;cases hc:seen.contains j with
   |true=>rfl
   |false=>
    exfalso;have:(⟨.int .i64 l[j].1,.string ⟨l[j].2.toArray⟩,0+j⟩:MapEntry)∈leftOf (iG l) seen:=by
     unfold leftOf;rw[Array.mem_filter];exact⟨by simpa[iG]using hin,by simp only[Nat.zero_add,hc,Bool.not_false]⟩
    rw[Array.eq_empty_of_size_eq_zero e1]at this;simp at this
  have hv:RepV w ρ (Owned ρ c.X) (.tup [.c (.bool false)]) (.tuple #[.bool false]):=by
   refine⟨?_,rfl⟩;simp only[RepH];exact⟨[_],rfl,by simp only[RepHV];exact⟨_,_,rfl,bW (by simp[RepC]) rfl rfl,rfl⟩⟩
  have:=hA.value (d:=o.dst) (.inr hv) (by simp[HV.men,HV.menL]) hdd;rw[hdst]at this⊢;exact⟨_,_,_,_,.inl (by simp[execOp,hop,h2,hrun,Result.andThen]),hdone hall,⟨_,this.weaken (fun j hj=>by omega)⟩⟩
 ·
  have hmem:e∈esL 0 l∧seen.contains e.born=false:=by
   unfold leftOf at he;have:e∈Array.filter (fun e=>!seen.contains e.born) (iG l):=by simpa using he
   rw[Array.mem_filter]at this;exact⟨by simpa[iG]using this.1,by simpa using this.2⟩
  obtain⟨j,hj,rfl⟩:=bD0 0 l e hmem.1;have hc:seen.contains j=false:=by simpa using hmem.2
  have hw:w1.heap=w.heap∧w1.os=w.os∧w1.tape=w.tape∧w1.output=w.output:=by rcases hw1 with rfl|rfl<;>exact⟨rfl,rfl,rfl,rfl⟩
  obtain⟨w2,hw2⟩: ∃w2,w2=setBlock w1 b (.mapIter (some bm) l.length (seen.push j) l.length):=⟨_,rfl⟩;have hbl: ∀b',b'≠b→w2.heap[b']? =w.heap[b']? :=fun b' hb'=>by
   rw[hw2,setBlock,←hw.1];simp only;rw[Array.getElem?_setIfInBounds_ne (fun e=>hb' e.symm)]
  have hbs:w2.heap[b]? =some (.mapIter (some bm) l.length (seen.push j) l.length):=by
   rw[hw2,setBlock,hw.1];simp only;have:=(Array.getElem?_eq_some_iff.1 h3).1;rw[Array.getElem?_setIfInBounds_self];simp[this]
  have hm:=(hA.mo it _ hit).1;have hmi:HO.men (· <nx+4*i) (.it id l.length (seen.push j) l.length):=by have:=(hA.mo id _ hid).1;simpa[HO.men]using this
  have hv: ∀w':World,RepV w' ρ (Owned ρ c.X) (.tup [.c (.bool true),.c (.int .i64 l[j].1),.c (.str l[j].2)]) (.tuple #[.bool true,.int .i64 l[j].1,.string ⟨l[j].2.toArray⟩]):=fun w'=>by
   refine⟨?_,rfl⟩;simp only[RepH];exact⟨[_,_,_],rfl,by simp only[RepHV];exact⟨_,_,rfl,bW (by simp[RepC]) rfl rfl,_,_,rfl,bW (by simp[RepC]) rfl rfl,_,_,rfl,bW (by simp[RepC]) rfl rfl,rfl⟩⟩
  have:=hA.setObj (d:=o.dst) (v:= .tup [.c (.bool true),.c (.int .i64 l[j].1),.c (.str l[j].2)]) (x:= .tuple #[.bool true,.int .i64 l[j].1,.string ⟨l[j].2.toArray⟩]) (w':=w2) (o:= .it id l.length (seen.push j) l.length) h1 rfl hm hbl (by rw[hw2,setBlock,hw.1];simp) (by rw[hw2];exact hw.2.1) (by rw[hw2];exact hw.2.2.1) (by rw[hw2];exact hw.2.2.2) (fun _=>⟨b,bm,h1,hbs,fun bm' hf' hρ'=>by rw[h5]at hρ';cases hρ';rfl⟩) hmi (fun _=> .inr (hv w2)) (by simp[HV.men,HV.menL]) hdd;rw[hdst]at this⊢;rw[Nat.zero_add,←hw2]at hrun;exact⟨_,w2,_,_,.inl (by simp[execOp,hop,h2,hrun,Result.andThen]),hnext j hj hc,⟨_,this.weaken (fun j hj=>by omega)⟩⟩
theorem bV6 {o:Oper}{x:Operand}{d it id:Nat}{l:List (Int×List UInt8)}{seen:Array Nat}{j:Nat}(hj:j<l.length)(hd:gD n ops=true)(ho:ops[i]? =some o)(hg:o.guard=none)(hop:o.op= .entry x)(hdst:o.dst=some d)
  (hx:ev fr x= .ptr it 0) (hit:ob it=some (.it id l.length (seen.push j) l.length)) (hid:ob id=some (.raw (iG l) l.length))
  (h:Lx P n k ops nx Kf (i+1) (upd fr d (.tup [.c (.int .i64 l[j].1),.c (.str l[j].2)])) ob):Lx P n k ops nx Kf i fr ob:=by
 refine yR hd ho hg (by rw[hop];intro c hc;cases hc) fun c a w ρ hA hdd=>?_;obtain⟨b,bm,h1,h2,h3,h4,h5⟩:=cN2 hA hx hit hid;have hnd: ∀(b0:Nat) (l:List (Int×List UInt8)),((esL b0 l).map (·.born)).Nodup∧ ∀y∈(esL b0 l).map (·.born),b0≤y:=by
  intro b0 l;induction l generalizing b0 with
  |nil=>simp[esL]
  |cons y l ih=>
   obtain⟨i1,i2⟩:=ih (b0+1);refine⟨?_,?_⟩
   · simp only[esL,List.map_cons,List.nodup_cons];exact⟨fun hin=>by have:=i2 _ hin;omega,i1⟩
   ·
    simp only[esL,List.map_cons,List.mem_cons];rintro z (rfl|hz)
    · exact Nat.le_refl _
    · have:=i2 z hz;omega
 have hin:=bS1 0 l j hj;have hrun:=run_entry_at (P:=P) w b bm l.length seen (iG l) l.length ⟨.int .i64 l[j].1,.string ⟨l[j].2.toArray⟩,0+j⟩ (by simpa using h3) h4 (by simpa[iG]using hin) (by simpa[iG]using(hnd 0 l).1);have:=hA.value (d:=o.dst) (.inr (cG5 l[j].1 l[j].2)) (by simp[HV.men,HV.menL]) hdd;rw[hdst]at this⊢;exact⟨_,_,_,_,.inl (by simp[execOp,hop,h2,hrun,Result.andThen]),h,⟨_,this.weaken (fun j hj=>by omega)⟩⟩
end
end Go.Hl
namespace Go.Pl
open Go Go.Hl
def cT (c:UInt8):Bool:=decide ((33:Int)≤c.toNat)&&decide ((c.toNat:Int)≤125)&&((c.toNat:Int) !=37)
def oK (n:Nat):UInt8:=([48,49,50,51,52,53,54,55,56,57,65,66,67,68,69,70]:List UInt8).getD n 0
def jV (c:UInt8):List UInt8:=if cT c then [c]else [37,oK (c.toNat/16),oK (c.toNat%16)]
def dB (w:aG):aG:=w.flatMap jV
def jC (w:aG):aG:=if w=[]then [126]else dB w
def sizeW (w:aG):Nat:=max (dB w).length 1
@[simp] theorem cT3 :dB []=[]:=rfl
theorem cG7 (c:UInt8):(jV c).length≤3:=by grind[jV]
theorem bV7 (c:UInt8):1≤(jV c).length:=by grind[jV]
theorem sS (w:aG):(dB w).length≤3*w.length:=by
 induction w with
 |nil=>simp_all
 |cons c w ih=>
  grind[cG7,dB,List.length_append,List.length_cons]
theorem aR1 (w:aG):w.length≤(dB w).length:=by
 induction w with
 |nil=>grind
 |cons c w ih=>
  grind[bV7,dB,List.length_append,List.length_cons]
variable {i:Nat}
theorem qS {w:aG}(h:i<w.length):dB (w.take (i+1))=dB (w.take i)++jV w[i]:=by
 simp only[List.take_succ_eq_append_getElem h,dB,List.flatMap_append,List.flatMap_cons,List.flatMap_nil,List.append_nil]
theorem lV (w:aG)(i:Nat):(dB (w.take i)).length≤(dB w).length:=by
 have:dB w=dB (w.take i)++dB (w.drop i):=by simp[dB,←List.flatMap_append]
 grind
theorem sT (w:aG):(jC w).length=sizeW w:=by
 unfold jC sizeW;split
 · simp_all
 · rename_i h;have:=aR1 w;grind[List.length_pos_iff]
theorem eI (w:aG):sizeW w≤3*w.length+1:=by grind[sS,sizeW]
theorem aE0 (w:aG):1≤sizeW w:=by unfold sizeW;omega
theorem cX8 (n:Nat):(if(1:Int)>(n:Int)then(1:Int)else(n:Int))=((max n 1:Nat):Int):=by split<;>omega
theorem cP7 (c:UInt8):Int.fdiv (c.toNat:Int) (2^(min 4 IntKind.u8.bits))=((c.toNat/16:Nat):Int):=by
 rw[show min 4 IntKind.u8.bits=4 from rfl,Int.fdiv_eq_ediv_of_nonneg _ (by omega)];rfl
theorem bV8 (c:UInt8):IntKind.u8.wrap ((BitVec.ofInt IntKind.u8.bits (c.toNat:Int)&&&BitVec.ofInt IntKind.u8.bits 15).toNat:Int)=((c.toNat%16:Nat):Int):=by
 have h:=c.toNat_lt;have:(BitVec.ofInt IntKind.u8.bits (c.toNat:Int)&&&BitVec.ofInt IntKind.u8.bits 15).toNat=c.toNat%16:=by
  rw[BitVec.toNat_and];have e1:(BitVec.ofInt IntKind.u8.bits (c.toNat:Int)).toNat=c.toNat:=by simp[IntKind.bits]
  have e2:(BitVec.ofInt IntKind.u8.bits 15).toNat=15:=rfl;rw[e1,e2];exact Nat.and_two_pow_sub_one_eq_mod _ 4
 grind[IntWalk.u8_in]
theorem bU : ∀bs:List UInt8,CV.denilL (bs.map dG)=bs.map dG
 |[]=>rfl
 |b::bs=>by simp only[List.map_cons,CV.denilL,bU bs];rfl
def iL :List aG→aG
 |[]=>[]
 |w::l=>jC w++l.flatMap fun v=>32::jC v
theorem bL2 (l:List aG)(w:aG):iL (l++[w])=iL l++((if l=[]then []else [32])++jC w):=by
 cases l with
 |nil=>simp[iL]
 |cons a l=>simp[iL]
variable {l:List aG}
theorem aE1 (h:i<l.length):iL (l.take (i+1))=iL (l.take i)++((if i=0 then []else [32])++jC l[i]):=by grind[List.take_succ_eq_append_getElem,bL2,List.take_eq_nil_iff]
def aA7 (l:List aG):aG:=iL l++[10]
def gK (ls:List (List aG)):aG:=ls.flatMap aA7
def iM (l:List aG):Nat:=(l.map fun w=>sizeW w+1).sum
def sumD (ls:List (List aG)):Nat:=(ls.map iM).sum
theorem aR2 : ∀(l:List aG),l≠[]→(iL l).length+1=iM l
 |[],h=>absurd rfl h
 |w::l,_=>by
  have: ∀l:List aG,(l.flatMap fun v=>32::jC v).length=iM l:=by
   intro l;induction l with
   |nil=>rfl
   |cons v l ih=>grind[List.length_append,List.length_cons,sT,iM]
  grind[iL,List.length_append,sT,iM]
theorem bV9 (h:l≠[]):(aA7 l).length=iM l:=by grind[aA7,List.length_append,aR2]
theorem bE1 (l:List aG):(iL l).length≤iM l:=by
 cases l with
 |nil=>simp[iL]
 |cons w l=>grind[aR2]
theorem sU : ∀{ls:List (List aG)},(∀l∈ls,l≠[])→(gK ls).length=sumD ls
 |[],_=>rfl
 |l::ls,h=>by
  have ih:=sU (ls:=ls) fun x hx=>h x (List.mem_cons_of_mem _ hx);grind[bV9,List.mem_cons_self,gK,sumD,List.length_append]
variable {ls:List (List aG)}
theorem aE2 (h:i<ls.length):gK (ls.take (i+1))=gK (ls.take i)++aA7 ls[i]:=by
 simp only[List.take_succ_eq_append_getElem h,gK,List.flatMap_append,List.flatMap_cons,List.flatMap_nil,List.append_nil]
theorem bL3 (h:i<l.length):iM (l.take (i+1))=iM (l.take i)+(sizeW l[i]+1):=by
 simp only[List.take_succ_eq_append_getElem h,iM,List.map_append,List.sum_append,List.map_cons,List.map_nil,List.sum_cons,List.sum_nil,Nat.add_zero]
theorem bL4 (h:i<ls.length):sumD (ls.take (i+1))=sumD (ls.take i)+iM ls[i]:=by
 simp only[List.take_succ_eq_append_getElem h,sumD,List.map_append,List.sum_append,List.map_cons,List.map_nil,List.sum_cons,List.sum_nil,Nat.add_zero]
@[simp] theorem cU6 :gK []=[]:=rfl
@[simp] theorem cU7 :iL []=[]:=rfl
@[simp] theorem cU8 :iM []=0:=rfl
@[simp] theorem cU9 :sumD []=0:=rfl
theorem sV (l:List aG)(i:Nat):iM (l.take i)≤iM l:=by grind[iM,List.take_append_drop]
theorem aJ9 (l:List (List aG))(i:Nat):sumD (l.take i)≤sumD l:=by grind[sumD,List.take_append_drop]
def nD (l:List aG):Int:=
 if l.length=0 then 1 else if 120<l.length then 3 else if l.any (fun w=>decide (32768<w.length))then 3 else 0
def okL (l:List aG):Bool:=nD l==0
theorem jH (l:List aG):okL l=true↔l≠[]∧l.length≤120∧ ∀w∈l,w.length≤32768:=by
 unfold okL nD;constructor
 ·
  intro h;split at h
  · grind
  ·
   split at h
   · grind
   · grind
 grind
theorem bE2 (h:okL l=true):iM l≤11796720:=by
 obtain⟨-,h1,h2⟩:=(jH l).1 h;have key: ∀l:List aG,(∀w∈l,w.length≤32768)→iM l≤98306*l.length:=by
  intro l;induction l with
  |nil=>simp_all
  |cons w l ih=>
   grind[List.mem_cons_of_mem,List.mem_cons_self,eI,iM,List.length_cons]
 grind
theorem bE3 (h: ∀l∈ls,okL l=true):sumD ls≤11796720*ls.length:=by
 induction ls with
 |nil=>simp_all
 |cons l ls ih=>
  grind[List.mem_cons_of_mem,bE2,List.mem_cons_self,sumD,List.length_cons]
theorem bW0 (l:List aG)(h: ∀w∈l,w.length≤32768):(iL l).length≤98306*l.length:=by
 have h1:=bE1 l;have key: ∀l:List aG,(∀w∈l,w.length≤32768)→iM l≤98306*l.length:=by
  intro l;induction l with
  |nil=>simp_all
  |cons w l ih=>
   grind[List.mem_cons_of_mem,List.mem_cons_self,eI,iM,List.length_cons]
 grind
theorem uR {α:Type}{p:α→Prop}{l:List α}(h:i<l.length)(h1:p l[i])(h0: ∀x∈l.take i,p x): ∀x∈l.take (i+1),p x:=by
 intro x hx;rw[List.take_succ_eq_append_getElem h,List.mem_append,List.mem_singleton]at hx;grind
def kY (ls:List (List aG)):Int:=
 if 1000<ls.length then 3 else match ls.find? (fun l=>!okL l)with
  |some l=>nD l
  |none=>if 262144<(gK ls).length then 3 else 0
def sW (ls:List (List aG)):aG:=if kY ls=0 then gK ls else []
theorem uS (h:1000<ls.length):kY ls=3:=by unfold kY;grind
theorem sX (h:ls.length≤1000)(hi:i<ls.length)(h0: ∀l∈ls.take i,okL l=true)(h1:okL ls[i]=false):kY ls=nD ls[i]:=by
 unfold kY;rw[if_neg (by omega)];grind[okL,List.find?_eq_some_iff_append,List.getElem_cons_drop,List.take_append_drop]
theorem aK0 (h:ls.length≤1000)(h0: ∀l∈ls,okL l=true):kY ls=if 262144<(gK ls).length then 3 else 0:=by
 unfold kY;grind
theorem bE4 (h:okL l=false):nD l≠0:=by grind[okL]
theorem jM (h:kY ls≠0):sW ls=[]:=by unfold sW;grind
theorem aK1 (h:kY ls=0):sW ls=gK ls:=by unfold sW;grind
def nJ (n:Nat):UInt8:=([48,49,50,51,52,53,54,55,56,57,97,98,99,100,101,102]:List UInt8).getD n 0
def aZ4 (c:UInt8):List UInt8:=[nJ (c.toNat/16),nJ (c.toNat%16)]
def gR (bs:List UInt8):List UInt8:=bs.flatMap aZ4
@[simp] theorem cV0 :gR []=[]:=rfl
theorem jN (bs:List UInt8):(gR bs).length=2*bs.length:=by
 induction bs with
 |nil=>rfl
 |cons c bs ih=>grind[gR,List.length_append,List.length_cons,aZ4,List.length_nil]
theorem aE3 {bs:List UInt8}(h:i<bs.length):gR (bs.take (i+1))=gR (bs.take i)++aZ4 bs[i]:=by
 simp only[List.take_succ_eq_append_getElem h,gR,List.flatMap_append,List.flatMap_cons,List.flatMap_nil,List.append_nil]
end Go.Pl
namespace Go.Hl
open Go Go.Pl
variable {fn:Func}{f:FuncId}{P:Program}
theorem uT {e:Array Value→Sem Value}{args:List CV}{R:CV→Prop}(hf:P.funcs[f]? =some fn)(hname:(fn.name== "runtime.NumGoroutine")=false)
  (hb:fn.body.isNone=true) (hn:Extern.findNext fn=none) (he:Extern.find fn=some e)
  (h: ∀(w:World) (ρ:Env) (O:Nat→Prop) (xs:List Value),RepHV w ρ O (args.map .c) xs→ ∃v x,R v∧RepV w ρ O (.c v) x∧(e xs.toArray).run P w= .ok x w):cJ P f args R:=by
 refine⟨by grind[bI3],fun w ρ X xs hS hA hX=> .inr ⟨by grind[eO,Option.isNone_iff_eq_none],?_⟩⟩;obtain⟨v,x,hR,hv,hrun⟩:=h w ρ _ xs hA;refine⟨x,by simp_all[run_callFunc_extern],.c v,cZ,ρ,x,rfl,⟨v,rfl,hR,rfl⟩,⟨hv,hS,by simp[HV.men],fun id o h=>by simp[cZ]at h,Stay2.refl _ _,Moves.refl _ _⟩⟩
theorem bE5 {w:World}{O:Nat→Prop}: ∀{l:List UInt8} {xs:List Value},RepL w O (l.map u8) xs→xs=l.map fun b=> .int .u8 (b.toNat:Int)
 |[],xs,h=>by simpa[RepL]using h
 |b::l,xs,h=>by
  simp only[List.map_cons,RepL,u8,RepC]at h;obtain⟨c1,c2,rfl,rfl,h2⟩:=h;rw[bE5 h2];rfl
variable {x:Value}{l:List UInt8}{O:Nat→Prop}{ρ:Env}{w:World}
theorem uU (h:RepV w ρ O (.c (.slc (l.map u8))) x):(Extern.Bytes.bytesOf x).run P w= .ok ⟨l.toArray⟩ w:=by
 have h1:=h.single rfl;simp only[RepC,List.cons.injEq,and_true]at h1;obtain⟨a,cap,xs,sz,rfl,h2,_,h4,h5,h6⟩:=h1;have hx:=bE5 h2;cases a with
 |none=>
  have:=h5 rfl;have hl:l=[]:=by
   have:l.length=0:=by simp only[List.length_map]at h4;omega
   exact List.eq_nil_of_length_eq_zero this
  subst hl;simp only[Extern.Bytes.bytesOf,Sem.run_pure];rfl
 |some ad=>
  have hr:=(h6 ad rfl).1;have:=Go.Lib.run_loadBytesX (P:=P) w (l.map fun b=>(b.toNat:Int)) ad .empty (fun j y hj=>hr j _ (by
   rw[hx];rw[List.getElem?_map]at hj⊢;cases hb:l[j]? with
   |none=>rw[hb]at hj;cases hj
   |some b=>rw[hb]at hj;cases hj;rfl))
  simp only[List.length_map]at this;simp only[Extern.Bytes.bytesOf,List.length_map,this];congr 2;simp only[Go.Lib.bytesOf,List.map_map];have e:l.map ((fun n:Int=>n.toNat.toUInt8)∘fun b:UInt8=>(b.toNat:Int))=l:=by
   conv=>rhs;rw[←List.map_id l]
   exact List.map_congr_left fun b _=>by simp
  rw[e];simp
def kO (a b:List UInt8):Int:=if slt a b then-1 else if a==b then 0 else 1
def bW1 (a b:List UInt8):Int:=
 match(List.range (min a.length b.length)).find? fun i=>a.getD i 0 !=b.getD i 0 with
 |some i=>if a.getD i 0<b.getD i 0 then-1 else 1
 |none=>if a.length<b.length then-1 else if a.length>b.length then 1 else 0
theorem yS {p:Nat→Bool}(n:Nat):(List.range (n+1)).find? p=if p 0 then some 0 else((List.range n).find? fun i=>p (i+1)).map (· +1):=by
 rw[List.range_succ_eq_map,List.find?_cons,List.find?_map];split<;>simp_all[Function.comp];rfl
theorem bE6 : ∀a b:List UInt8,bW1 a b=kO a b
 |[],[]=>rfl
 |[],b::l=>by simp[bW1,kO,slt,Op.bytesLess]
 |a::l,[]=>by simp[bW1,kO,slt,Op.bytesLess]
 |a::l,b::m=>by
  have ih:=bE6 l m;have hmin:min (a::l).length (b::m).length=min l.length m.length+1:=by simp only[List.length_cons];omega
  unfold bW1 at ih⊢;rw[hmin,yS];by_cases hab:a=b
  · subst hab;simp only[List.getD_cons_zero,bne_self_eq_false,Bool.false_eq_true,if_false,List.getD_cons_succ];grind[kO,slt,Op.bytesLess,List.range,min]
  simp_all[List.getD_cons_zero,if_true,kO,slt,Op.bytesLess]
variable {y:Value}
theorem cG8 {a b:List UInt8}(ha:RepV w ρ O (.c (.slc (a.map u8))) x)(hb:RepV w ρ O (.c (.slc (b.map u8))) y):
  (Extern.BytealgCompare.compare #[x,y]).run P w= .ok (.int .i64 (kO a b)) w:=by
 change (Sem.run P (do pure (goInt (Extern.BytealgCompare.cmp (←Extern.Bytes.bytesOf x) (←Extern.Bytes.bytesOf y)))) w)=_;simp only[Sem.run_bind,uU ha,uU hb,Result.andThen_ok,Sem.run_pure,goInt];rw[←bE6];grind[ByteArray.size,Go.Lib.get!_eq,Extern.BytealgCompare.cmp,bW1,List.find?]
def fH (l:List UInt8)(c:UInt8):Int:=match l.findIdx? (· ==c)with|some i=>(i:Int)|none=> -1
theorem aR3 {α:Type}{p:α→Bool}(d:α): ∀(l:List α),(List.range l.length).find? (fun i=>p (l.getD i d))=l.findIdx? p
 |[]=>rfl
 |a::l=>by
  rw[List.length_cons,yS,List.findIdx?_cons];simp only[List.getD_cons_zero,List.getD_cons_succ];rw[aR3 d l]
variable {c:UInt8}
theorem bE7 (hx:(Extern.Bytes.bytesOf x).run P w= .ok ⟨l.toArray⟩ w)(hy:(Extern.Bytes.asByte y).run P w= .ok c w):
  (Extern.BytealgIndexByte.indexByte #[x,y]).run P w= .ok (.int .i64 (fH l c)) w:=by
 change (Sem.run P (do
  let b←Extern.Bytes.bytesOf x
  let c←Extern.Bytes.asByte y
  match(List.range b.size).find? fun i=>b[i]! ==c with
  |some i=>pure (goInt i)
  |none=>pure (goInt (-1))) w)=_
 simp only[Sem.run_bind,hx,hy,Result.andThen_ok];have h1:(⟨l.toArray⟩:ByteArray).size=l.length:=by simp[ByteArray.size]
 have h2: ∀i:Nat,(⟨l.toArray⟩:ByteArray)[i]! =l.getD i 0:=fun i=>by exact Go.Lib.get!_eq l i
 simp only[h1,h2,aR3 (p:=fun b=>b==c)];unfold fH;cases l.findIdx? fun b=>b==c<;>rfl
theorem yT (h:RepV w ρ O (.c (u8 c)) y):(Extern.Bytes.asByte y).run P w= .ok c w:=by
 have h1:=h.single rfl;simp_all[u8,RepC,List.cons.injEq,and_true,Extern.Bytes.asByte]
theorem cP8 (hf:P.funcs[f]? =some fn)(hname:(fn.name== "runtime.NumGoroutine")=false)(hb:fn.body.isNone=true)(hn:Extern.findNext fn=none)
  (he:Extern.find fn=some Extern.BytealgIndexByte.indexByte) (l:List UInt8) (c:UInt8):cJ P f [.slc (l.map u8),u8 c] (fun v=>v= .int .i64 (fH l c)):=
 uT hf hname hb hn he fun w ρ O xs h=>by
  simp only[List.map_cons,List.map_nil,bK,RepHV]at h;obtain⟨x,l1,rfl,hx,y,l2,rfl,hy,rfl⟩:=h;exact⟨_,_,rfl,eF _ _ _ _ _,bE7 (uU hx) (yT hy)⟩
theorem cG9 (hf:P.funcs[f]? =some fn)(hname:(fn.name== "runtime.NumGoroutine")=false)(hb:fn.body.isNone=true)(hn:Extern.findNext fn=none)
  (he:Extern.find fn=some Extern.BytealgIndexByte.indexByte) (l:List UInt8) (c:UInt8):cJ P f [.str l,u8 c] (fun v=>v= .int .i64 (fH l c)):=
 uT hf hname hb hn he fun w ρ O xs h=>by
  simp only[List.map_cons,List.map_nil,bK,RepHV]at h;obtain⟨x,l1,rfl,hx,y,l2,rfl,hy,rfl⟩:=h;have hx':(Extern.Bytes.bytesOf x).run P w= .ok ⟨l.toArray⟩ w:=by
   have h1:=hx.single rfl;simp only[RepC,List.cons.injEq,and_true]at h1;subst h1;rfl
  exact⟨_,_,rfl,eF _ _ _ _ _,bE7 hx' (yT hy)⟩
end Go.Hl
namespace Go.Pl
open Go Go.Hl
def aU (c:UInt8):List UInt8→List (List UInt8)
 |[]=>[[]]
 |b::l=>if b=c then []::aU c l else match aU c l with
  |x::xs=>(b::x)::xs
  |[]=>[[b]]
theorem dF (c:UInt8)(l:List UInt8):aU c l≠[]:=by
 cases l with
 |nil=>simp[aU]
 |cons b l=>grind[aU]
theorem qT (c:UInt8): ∀l:List UInt8,match l.findIdx? (· ==c)with
  |some i=>i<l.length∧aU c l=l.take i::aU c (l.drop (i+1))
  |none=>aU c l=[l]
 |[]=>rfl
 |b::l=>by
  have ih:=qT c l;rw[List.findIdx?_cons];by_cases h:b=c
  · grind[aU]
  ·
   have hb:(b==c)=false:=by simpa using h
   simp only[hb,Bool.false_eq_true,if_false];cases hf:l.findIdx? (· ==c)with
   |none=>
    simp_all[Option.map_none,aU,if_neg]
   |some i=>
    simp_all[Option.map_some,aU,if_neg,List.length_cons,List.take_succ_cons,List.drop_succ_cons,trivial]
variable {c:UInt8}{l:List UInt8}
theorem sY (h:fH l c<0):aU c l=[l]:=by
 have:=qT c l;grind[fH]
theorem iQ (h: ¬fH l c<0): ∃i:Nat,fH l c=(i:Int)∧i<l.length∧aU c l=l.take i::aU c (l.drop (i+1)):=by
 have:=qT c l;unfold fH at h⊢;grind
theorem eV (c:UInt8): ∀l:List UInt8,(aU c l).length≤l.length+1
 |[]=>by simp[aU]
 |b::l=>by
  have ih:=eV c l;grind[aU,List.length_cons]
theorem nE (c:UInt8): ∀(l:List UInt8),∀p∈aU c l,p.length≤l.length
 |[],p,hp=>by grind[aU]
 |b::l,p,hp=>by
  have ih:=nE c l;unfold aU at hp;split at hp
  · grind
  ·
   split at hp
   · grind
   grind
def valH (c:UInt8):Nat:=if 48≤c.toNat∧c.toNat≤57 then c.toNat-48 else if 65≤c.toNat∧c.toNat≤70 then c.toNat-55 else 16
theorem bE8 (c:UInt8):valH c≤16:=by grind[valH]
def byteH (x y:UInt8):UInt8:=UInt8.ofNat (16*valH x+valH y)
def okH (x y:UInt8):Bool:=decide (valH x<16)&&decide (valH y<16)&&!cT (byteH x y)
def unB :List UInt8→Option aG
 |[]=>some []
 |c::l=>if cT c then(unB l).map (c::·)else if c=37 then match l with
   |x::y::l'=>if okH x y then(unB l').map (byteH x y::·)else none
   |_=>none
  else none
def unW (s:aG):Option aG:=if s=[126]then some []else if s=[]then none else unB s
theorem pH {c:UInt8}{l:aG}(h:cT c=true):unB (c::l)=(unB l).map (c::·):=by
 rw[unB.eq_def];grind
theorem wZ {c:UInt8}{l:aG}(h:cT c=false)(h1:c≠37∨l.length<2):unB (c::l)=none:=by
 rw[unB.eq_def];grind
theorem aK2 {x y:UInt8}{l:aG}(h:okH x y=true):unB (37::x::y::l)=(unB l).map (byteH x y::·):=by
 rw[unB.eq_def];simp_all[cT,Bool.false_eq_true,if_false,if_true]
theorem wD {x y:UInt8}{l:aG}(h:okH x y=false):unB (37::x::y::l)=none:=by simp_all[unB.eq_def,cT,Bool.false_eq_true,if_false,if_true]
variable {s:aG}
theorem cP9 {w:aG}(hs:s≠[])(h:unB s=some w):w≠[]:=by
 cases s with
 |nil=>grind
 |cons c l=>
  by_cases hp:cT c=true
  · rw[pH hp,Option.map_eq_some_iff]at h;grind
  ·
   have hp:cT c=false:=by simpa using hp
   rw[unB.eq_def]at h;simp only[hp,Bool.false_eq_true,if_false]at h;split at h
   ·
    split at h
    ·
     split at h
     · rw[Option.map_eq_some_iff]at h;grind
     grind
    grind
   grind
def cH0 :List UInt8:=[48,49,50,51,52,53,54,55,56,57,65,66,67,68,69,70]
set_option maxRecDepth 20000 in
theorem sZ (c:UInt8):fH cH0 c=if valH c<16 then(valH c:Int)else-1:=by
 have h: ∀n:Fin 256,fH cH0 (UInt8.ofNat n.1)=if valH (UInt8.ofNat n.1)<16 then(valH (UInt8.ofNat n.1):Int)else-1:=by decide
 have:=h ⟨c.toNat,c.toNat_lt⟩;simp_all
theorem uV {x y:UInt8}(hx:valH x<16)(hy:valH y<16):(byteH x y).toNat=16*valH x+valH y:=by grind[byteH,UInt8.toNat_ofNat']
def UnSt (s:aG)(i:Nat)(out:aG):Prop:=i≤s.length∧unB s=(unB (s.drop i)).map (out++·)∧(out=[]→i=0)∧out.length≤i
section
variable {s:aG}{i:Nat}{out:aG}
theorem UnSt.init (s:aG):UnSt s 0 []:=⟨Nat.zero_le _,by simp,fun _=>rfl,Nat.le_refl _⟩
theorem UnSt.plain (h:UnSt s i out)(hi:i<s.length)(hp:cT s[i]=true):UnSt s (i+1) (out++[s[i]]):=by
 obtain⟨_,h2,_,h4⟩:=h;refine⟨hi,?_,by simp,by grind⟩;rw[h2,List.drop_eq_getElem_cons hi,pH hp,Option.map_map];congr 1;grind
theorem UnSt.bad1 (h:UnSt s i out)(hi:i<s.length)(hp:cT s[i]=false)(h1:s[i]≠37∨s.length≤i+2):unB s=none:=by
 rw[h.2.1,List.drop_eq_getElem_cons hi,wZ hp (h1.imp id fun h=>by grind)];rfl
theorem cN3 {s:aG}{i:Nat}(hi:i+2<s.length):s.drop i=s[i]::s[i+1]::s[i+2]::s.drop (i+3):=by
 rw[List.drop_eq_getElem_cons (show i<s.length by omega),List.drop_eq_getElem_cons (show i+1<s.length by omega),List.drop_eq_getElem_cons hi]
theorem UnSt.esc (h:UnSt s i out)(hi:i+2<s.length)(h37:s[i]=37)(hok:okH s[i+1] s[i+2]=true):UnSt s (i+3) (out++[byteH s[i+1] s[i+2]]):=by
 obtain⟨_,h2,_,h4⟩:=h;refine⟨hi,?_,by simp,by simp;omega⟩;rw[h2,cN3 hi,h37,aK2 hok,Option.map_map];congr 1;funext l;simp
theorem UnSt.bad2 (h:UnSt s i out)(hi:i+2<s.length)(h37:s[i]=37)(hok:okH s[i+1] s[i+2]=false):unB s=none:=by
 rw[h.2.1,cN3 hi,h37,wD hok];rfl
theorem gY (h:unB s=none)(h1:s≠[126]):unW s=none:=by simp_all[unW,if_neg]
theorem UnSt.fin (h:UnSt s i out)(hi:i=s.length)(h1:s≠[126]):unW s=if out=[]then none else some out:=by
 subst hi;obtain⟨_,h2,h3,h4⟩:=h;rw[List.drop_length]at h2;unfold unW;rw[if_neg h1];by_cases ho:out=[]
 · grind
 ·
  have hs:s≠[]:=by
   rintro rfl;simp only[List.length_nil,Nat.le_zero]at h4;exact ho (List.eq_nil_of_length_eq_zero h4)
  simp_all[if_neg,unB]
end
def CutR (l:List UInt8)(c:UInt8)(li re:List UInt8)(fd:Bool):Prop:=
 (fd=false∧fH l c<0∧li=l∧re=[])∨(fd=true∧ ∃i:Nat,fH l c=(i:Int)∧i<l.length∧li=l.take i∧re=l.drop (i+1))
def unL (r:aG):Option (List aG):=(aU 32 r).mapM unW
def unR (r:aG):Option (List aG):=match unL r with|some ws=>if okL ws then some ws else none|none=>none
def iX (b:aG):Option (List (List aG)):=
 if b=[]then some []else if(aU 10 b).getLast (dF 10 b)=[]then(aU 10 b).dropLast.mapM unR else none
variable {li re:aG}
theorem aR4 {l:aG}(hc:CutR l 10 li re true):iX l=(unR li).bind fun ws=>(iX re).map (ws::·):=by
 rcases hc with⟨h,_⟩|⟨_,i,h1,h2,rfl,rfl⟩
 · cases h
 ·
  obtain⟨i',h3,_,hsp⟩:=iQ (l:=l) (c:=10) (by omega);have:i'=i:=by omega
  subst this;have hne:l≠[]:=by rintro rfl;simp at h2
  have hd:iX l=if(aU 10 (l.drop (i'+1))).getLast (dF 10 _)=[]then(l.take i'::(aU 10 (l.drop (i'+1))).dropLast).mapM unR else none:=by
   unfold iX;rw[if_neg hne];simp only[hsp];grind[List.getLast_cons,dF,List.dropLast_cons_of_ne_nil]
  rw[hd];have he:iX (l.drop (i'+1))=if(aU 10 (l.drop (i'+1))).getLast (dF 10 _)=[]then(aU 10 (l.drop (i'+1))).dropLast.mapM unR else none:=by
   unfold iX;split
   · rename_i h;rw[h];rfl
   · rfl
  rw[he];split
  ·
   rw[List.mapM_cons];cases unR (l.take i')with
   |none=>rfl
   |some ws=>cases(aU 10 (l.drop (i'+1))).dropLast.mapM unR<;>rfl
  simp_all
theorem yU {l:aG}(hc:CutR l 10 li re false)(hne:l≠[]):iX l=none:=by
 rcases hc with⟨_,h,_⟩|⟨h,_⟩
 all_goals simp_all[iX,if_neg,sY,List.getLast_singleton]
variable {fd:Bool}
theorem bW2 {l:aG}(hc:CutR l 10 li re fd)(hne:l≠[])(h:unR li=none):iX l=none:=by
 cases fd with
 |false=>exact yU hc hne
 |true=>rw[aR4 hc,h];rfl
theorem CutR.lt {l:aG}(hc:CutR l c li re fd)(hne:l≠[]):re.length<l.length∧li.length≤l.length:=by
 have:0<l.length:=List.length_pos_iff.2 hne;rcases hc with⟨_,_,rfl,rfl⟩|⟨_,i,_,h,rfl,rfl⟩
 all_goals grind
def wsT (r:aG)(i:Nat):List aG:=((aU 32 r).take i).map fun p=>(unW p).getD []
def aR5 (r:aG)(i:Nat):Prop:= ∀p∈(aU 32 r).take i,(unW p).isSome=true
variable {i:Nat}{r:aG}
theorem aR6 (h:i<(aU 32 r).length):wsT r (i+1)=wsT r i++[(unW (aU 32 r)[i]).getD []]:=by
 simp only[wsT,List.take_succ_eq_append_getElem h,List.map_append,List.map_cons,List.map_nil]
theorem qU (h:i≤(aU 32 r).length):(wsT r i).length=i:=by grind[wsT,List.length_map,List.length_take]
theorem aE4 (h:i<(aU 32 r).length)(h1:aR5 r i)(h2:(unW (aU 32 r)[i]).isSome=true):aR5 r (i+1):=by
 intro p hp;rw[List.take_succ_eq_append_getElem h,List.mem_append,List.mem_singleton]at hp;rcases hp with hp|rfl
 · exact h1 p hp
 · exact h2
theorem pI {α β:Type}{f:α→Option β}: ∀{l:List α} {x:α},x∈l→f x=none→l.mapM f=none
 |a::l,x,hx,h=>by
  rw[List.mapM_cons];rcases List.mem_cons.1 hx with rfl|hx
  · grind
  · rw[pI hx h];simp_all
theorem tA {α β:Type}{f:α→Option β}(d:β): ∀{l:List α},(∀x∈l,(f x).isSome=true)→l.mapM f=some (l.map fun x=>(f x).getD d)
 |[],_=>rfl
 |a::l,h=>by
  rw[List.mapM_cons,tA d fun x hx=>h x (List.mem_cons_of_mem _ hx)];grind[Option.isSome_iff_exists,List.mem_cons_self]
theorem bW3 (h:i<(aU 32 r).length)(h2:(unW (aU 32 r)[i]).isSome=false):unR r=none:=by
 unfold unR unL;rw[pI (List.getElem_mem h) (by simpa using h2)]
theorem cH1 (h:aR5 r (aU 32 r).length):unR r=if okL (wsT r (aU 32 r).length)then some (wsT r (aU 32 r).length)else none:=by
 unfold aR5 at h;rw[List.take_length]at h;unfold unR unL;rw[tA [] h];simp only[wsT,List.take_length]
def DecSt (b rest:aG)(ls:List (List aG)):Prop:=iX b=(iX rest).map (ls++·)∧rest.length≤b.length∧ls.length+rest.length≤b.length
theorem DecSt.init (b:aG):DecSt b b []:=⟨by simp,Nat.le_refl _,by simp⟩
variable {ls:List (List aG)}{b rest:aG}
theorem DecSt.bad (h:DecSt b rest ls)(hc:CutR rest 10 li re fd)(hne:rest≠[])(hb:unR li=none):iX b=none:=by
 rw[h.1,bW2 hc hne hb];rfl
theorem DecSt.bad0 (h:DecSt b rest ls)(hc:CutR rest 10 li re false)(hne:rest≠[]):iX b=none:=by
 rw[h.1,yU hc hne];rfl
theorem DecSt.next (h:DecSt b rest ls)(hc:CutR rest 10 li re true)(hne:rest≠[]){ws:List aG}(hb:unR li=some ws):DecSt b re (ls++[ws]):=by
 have hl:=hc.lt hne;obtain⟨h1,h2,h3⟩:=h;refine⟨?_,by omega,by grind⟩;rw[h1,aR4 hc,hb];cases iX re with
 |none=>rfl
 |some l=>simp
theorem DecSt.fin (h:DecSt b [] ls):iX b=some ls:=by
 rw[h.1];simp[iX]
def eW (b:aG):Int:=if 262144<b.length then 3 else match iX b with|some ls=>if 1000<ls.length then 2 else 0|none=>2
def gZ (b:aG):List (List aG):=if eW b=0 then(iX b).getD []else []
structure Pt where
 k:Nat
 c:UInt8
def Pt.cv (x:Pt):CV:= .agg [.int .i64 x.k,.int .u8 x.c.toNat]
theorem Pt.cells (x:Pt):x.cv.cells=2:=by simp[Pt.cv,CV.cells,CV.cellsL]
theorem Pt.denil (x:Pt):x.cv.denil=x.cv:=by simp only[Pt.cv,CV.denil,CV.denilL]
theorem Pt.isAgg (x:Pt):x.cv.isAgg=true:=rfl
theorem Pt.getAll (x:Pt):CV.getAt 0 2 true x.cv=some x.cv:=by
 have:=Pt.cells x;simp_all[Pt.cv,CV.cells,CV.getAt,and_self,if_true]
theorem Pt.setAll (x:Pt)(y:HV):CV.setAt 0 2 y x.cv=some y:=by
 have:=Pt.cells x;simp_all[Pt.cv,CV.cells,CV.setAt,and_self,if_true]
theorem Pt.fold (k:Nat)(c:UInt8):CV.agg [.int .i64 k,.int .u8 c.toNat]=Pt.cv ⟨k,c⟩:=rfl
theorem Pt.get_k (x:Pt):CV.getAt 0 1 false x.cv=some (.int .i64 x.k):=by simp[Pt.cv,CV.getAt,CV.getAtL,CV.cells,CV.cellsL]
theorem Pt.get_c (x:Pt):CV.getAt 1 1 false x.cv=some (.int .u8 x.c.toNat):=by simp[Pt.cv,CV.getAt,CV.getAtL,CV.cells,CV.cellsL]
def patP :aG→Option (List Pt)
 |[]=>some []
 |c::l=>if c=0 then none
  else if c=92 then match l with
   |[]=>none
   |d::r=>if d=0 then none else(patP r).map (⟨0,d⟩::·)
  else if c=63 then(patP l).map (⟨1,0⟩::·)
  else if c=42 then match l with
   |[]=>some [⟨2,0⟩]
   |d::r=>if d=42 then(patP r).map (⟨3,0⟩::·)else(patP (d::r)).map (⟨2,0⟩::·)
  else(patP l).map (⟨0,c⟩::·)
def aZ5 (p:aG):Option (List Pt):=if p.length<1∨200<p.length then none else patP p
def PatSt (p:aG)(i:Nat)(out:List Pt):Prop:=i≤p.length∧patP p=(patP (p.drop i)).map (out++·)∧out.length≤i∧ ∀x∈out,x.k≤3
theorem PatSt.init (p:aG):PatSt p 0 []:=⟨by omega,by simp,by simp,by simp⟩
section
variable {p:aG}{i:Nat}{out:List Pt}
theorem PatSt.fin (h:PatSt p i out)(hi:i=p.length):patP p=some out:=by
 rw[h.2.1,hi,List.drop_length,patP.eq_def];simp
theorem PatSt.step (h:PatSt p i out){k:Nat}{x:Pt}(hk:i+k≤p.length)(h0:1≤k)(hx:x.k≤3)(he:patP (p.drop i)=(patP (p.drop (i+k))).map (x::·)):PatSt p (i+k) (out++[x]):=by
 refine⟨hk,?_,by have:=h.2.2.1;grind,fun y hy=>?_⟩
 · rw[h.2.1,he,Option.map_map];congr 1;grind
 ·
  rcases List.mem_append.1 hy with hy|hy
  · exact h.2.2.2 y hy
  grind
theorem PatSt.bad (h:PatSt p i out)(he:patP (p.drop i)=none):patP p=none:=by rw[h.2.1,he];rfl
end
theorem tB (c:UInt8): ∀l:List UInt8,(aU c l).length=Lib.countByte l c+1
 |[]=>rfl
 |b::l=>by
  have ih:=tB c l;unfold Lib.countByte at ih⊢;rw[List.count_cons];unfold aU;by_cases h:b=c
  · rw[if_pos h];simp only[List.length_cons,ih,h,beq_self_eq_true,if_true]
  ·
   have hb:(b==c)=false:=by simpa using h
   rw[if_neg h];simp only[hb,Bool.false_eq_true,if_false,Nat.add_zero];split
   · rename_i x xs hx;rw[hx]at ih;simpa using ih
   · rename_i hx;exact absurd hx (dF c l)
theorem aZ6 (h:(aU c l).length=1):aU c l=[l]:=by
 by_cases hn:fH l c<0;all_goals grind[sY,iQ,List.length_pos_iff,dF,List.length_cons]
def SplSt (l:aG)(c:UInt8)(i:Nat)(rest:aG)(a:List aG):Prop:=
 a.length=(aU c l).length∧a.take i=(aU c l).take i∧(aU c l).drop i=aU c rest∧i<(aU c l).length∧rest.length≤l.length
section
variable {l rest:aG}{c:UInt8}{i k:Nat}{a:List aG}
theorem SplSt.init (l:aG)(c:UInt8):SplSt l c 0 l (List.replicate (aU c l).length []):=
 ⟨by simp,by simp,rfl,List.length_pos_iff.2 (dF c l),Nat.le_refl _⟩
theorem SplSt.next (h:SplSt l c i rest a)(hk:fH rest c=(k:Int)):k<rest.length∧SplSt l c (i+1) (rest.drop (k+1)) (a.set i (rest.take k)):=by
 obtain⟨h1,h2,h3,h4,h5⟩:=h;obtain⟨k',e1,e2,e3⟩:=iQ (l:=rest) (c:=c) (by omega);have:k'=k:=by omega
 subst this;rw[e3]at h3;have h6:=List.drop_eq_getElem_cons h4;rw[h6]at h3;have h7:=List.head_eq_of_cons_eq h3;have h8:=List.tail_eq_of_cons_eq h3;refine⟨e2,by grind,?_,h8,?_,by grind⟩
 · rw[List.take_succ_eq_append_getElem (by grind),List.take_succ_eq_append_getElem h4,List.getElem_set_self,List.take_set_of_le (Nat.le_refl _),h2,h7]
 grind[Nat.lt_or_ge,aU,List.drop_eq_nil_of_le,absurd,dF]
theorem SplSt.last (h:SplSt l c i rest a)(hk:fH rest c<0):i+1=(aU c l).length:=by
 obtain⟨h1,h2,h3,h4,h5⟩:=h;rw[sY hk]at h3;have:=congrArg List.length h3;grind
theorem SplSt.fin (h:SplSt l c i rest a)(hi:i+1=(aU c l).length):a.set i rest=aU c l:=by
 obtain⟨h1,h2,h3,h4,h5⟩:=h;have h6:(aU c rest).length=1:=by rw[←h3,List.length_drop];omega
 rw[aZ6 h6]at h3;have e1:a.set i rest=(a.set i rest).take (i+1):=(List.take_of_length_le (by grind)).symm;rw[e1,List.take_succ_eq_append_getElem (by grind),List.getElem_set_self,List.take_set_of_le (Nat.le_refl _),h2];grind[List.take_append_drop,aU]
end
def kZ (c:UInt8):Bool:=decide (48≤c.toNat)&&decide (c.toNat≤57)
def fO :aG→Nat→Option Nat
 |[],n=>some n
 |c::l,n=>if kZ c then fO l (10*n+(c.toNat-48))else none
def fT (s:aG):Bool:=decide (s.length<1)||decide (13<s.length)||(decide (1<s.length)&&s.getD 0 0==48)
def cP (s:aG):Option Int:=if fT s then none else match fO s 0 with|some n=>if 1099511627776<n then none else some (n:Int)|none=>none
def DgSt (s:aG)(i n:Nat):Prop:=i≤s.length∧fO s 0=fO (s.drop i) n∧n<10^i
theorem DgSt.init (s:aG):DgSt s 0 0:=⟨Nat.zero_le _,rfl,by omega⟩
variable {n:Nat}
theorem DgSt.next (h:DgSt s i n)(hi:i<s.length)(hd:kZ s[i]=true):DgSt s (i+1) (10*n+(s[i].toNat-48)):=by
 obtain⟨h1,h2,h3⟩:=h;refine⟨hi,?_,?_⟩
 · rw[h2,List.drop_eq_getElem_cons hi,fO,if_pos hd]
 · simp only[kZ,Bool.and_eq_true,decide_eq_true_eq]at hd;grind
theorem DgSt.bad (h:DgSt s i n)(hi:i<s.length)(hd:kZ s[i]=false):fO s 0=none:=by
 rw[h.2.1,List.drop_eq_getElem_cons hi,fO,if_neg (by grind)]
theorem DgSt.fin (h:DgSt s i n)(hi:i=s.length):fO s 0=some n:=by
 rw[h.2.1,hi,List.drop_length];rfl
theorem DgSt.lt (h:DgSt s i n)(hs:s.length≤13):n<10000000000000:=by
 have:10^i≤10^13:=Nat.pow_le_pow_right (by omega) (Nat.le_trans h.1 hs);have:=h.2.2;omega
theorem oL (h:fT s=true):cP s=none:=by unfold cP;grind
theorem pJ (h:fO s 0=none):cP s=none:=by grind[cP]
theorem aR7 (h:fO s 0=some n)(h1:1099511627776<n):cP s=none:=by simp_all[cP,if_pos]
theorem aK3 {n:Nat}(h0:fT s=false)(h:fO s 0=some n)(h1: ¬1099511627776<n):cP s=some (n:Int):=by simp_all[cP,if_neg]
theorem aR8 (c:UInt8):kZ c=(decide ((48:Int)≤(c.toNat:Int))&&decide ((c.toNat:Int)≤57)):=by
 unfold kZ;grind
theorem gF {n:Int}(h:cP s=some n):0≤n∧n≤1099511627776:=by grind[cP]
end Go.Pl
