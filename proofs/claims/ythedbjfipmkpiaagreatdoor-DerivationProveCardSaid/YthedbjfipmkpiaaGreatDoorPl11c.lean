/- Plain Lean: the made keys, and the root document with all of them. By an AI agent. -/
import Derived.Test.YthedbjfipmkpiaaGreatDoorHlTop
import Derived.Test.YthedbjfipmkpiaaGreatDoorPl18e
import Derived.Test.YthedbjfipmkpiaaGreatDoorHlIt
import Derived.Test.YthedbjfipmkpiaaGreatDoorHlEs
import Derived.Maps.RangeRun
import Derived.Test.YthedbjfipmkpiaaGreatDoorHlK
import Derived.Laws.Externs
import Derived.Lib.BytesEntry
import Derived.Test.YthedbjfipmkpiaaGreatDoorPl31
set_option linter.unusedSimpArgs false
set_option linter.unusedVariables false
set_option linter.defProp false
namespace Go.Proofs.YthedbjfipmkpiaaGreatDoor
open Go Go.Hl Go.Pl
def rI :=(And.intro (And.intro (And.intro @rpost_exit (And.intro @rpost_normal @rpost_ret)) (And.intro @hscope_exit (And.intro @hscope_normal @hscope_ret))) (And.intro (And.intro @ithen_normal (And.intro @ithen_exit @ithen_ret)) (And.intro @iblk_normal (And.intro @iblk_exit @iblk_ret))))
section
variable {n k nx i:Nat}{ops:Array Oper}{o:Oper}{g:Option (Nat×Bool)}{fr fr':Fr}{ob ob':Ob}
theorem T0 {a b:Prop}(h:b)(e:b→a:=by intro h;simp only[↓sP,sA,tyS,simprocAttr];(repeat refine AI ?_);exact h):a:=e h
theorem T2 {a b:Prop}(h:b)(e:b→a:=by intro h;simp only[sE,↓reduceIte,simprocAttr];(repeat refine AI ?_);exact h):a:=e h
theorem AX {a b:Prop}(h:b)(e:b→a:=by intro h;(repeat refine AI ?_);exact h):a:=e h
theorem fF {l:List (Nat×HV)}{h:List (Nat×HO)}{nx2:Nat}(hk:k≤nx2:=by omega)(h1:aW nx2 fr l:=by simp[aW,fin_at,finA_at,upd_at,HV.men,HV.menL,HV.norm,HV.toC,HV.toCL])
    (h2:aX nx2 ob h:=by simp[aX,fob_at,upd_at,none0_at,bI,HO.men,HV.men,HV.menL,HV.norm,HV.toC,HV.toCL]):Fits k fr ob (fin l) (fob h) nx2:=aM hk h1 h2
theorem Rg {id:Nat}{b:Prop}{Q:dY}(h:b)(hd:fM n ops=true:=by kernel_rfl)
    (e:b→hlex Tryz.prog ops nx (fun fr' ob'=>Q .normal fr' ob' (nx+4*ops.size)) (List.range ops.size) fr ob:=by intro h;simp only[sR,simprocAttr];exact h):Hw Tryz.prog n k (.region id ops false) Q fr ob nx:=aD hd (e h)
theorem lR (i:Nat)(h:(i:Int)<9223372036854775807:=by omega):IntKind.i64.wrap ((i:Int)+1)=(i:Int)+1:=IntWalk.i64_in _ ⟨by omega,by omega⟩
theorem R0 {id nx':Nat}{c2:Code}{Q:dY}(h:Hw Tryz.prog n k c2 Q fr' ob' nx')(hd:fM n ops=true:=by kernel_rfl)
    (e: ∀K:Fr→Ob→Nat→Prop,K fr' ob' nx'→hlex Tryz.prog ops nx (fun fr' ob'=>hthen K Q .normal fr' ob' (nx+4*ops.size)) (List.range ops.size) fr ob:=by intro K h;simp only[↓sP,sA,tyS,simprocAttr];(repeat refine AI ?_);exact h):
    Hw Tryz.prog n k (.seq (.region id ops false) c2) Q fr ob nx:=aC fun K hK=>aD hd (e K (hK _ _ _ h))
section
variable {Q:Fr→Ob→Prop}
theorem S0 {l:List Nat}(h:hlex Tryz.prog ops nx Q l fr' ob')(ho:ops[i]? =some o:=by exact rfl)(hg:gd ops o=some g:=by exact rfl)
    (e: ∀K:Fr→Ob→Prop,K fr' ob'→hop1 Tryz.prog (nx+4*i) [] g o.op o.dst K fr ob:=by intro K h;simp only[sH,↓sP,sA,tyS,simprocAttr];(repeat refine AI ?_);exact h):hlex Tryz.prog ops nx Q (i::l) fr ob:=
  aE ho hg fun K hK=>e K (hK _ _ h)
theorem SG0 {l:List Nat}(h:hlexG Tryz.prog ops nx Q l fr' ob')(ho:ops[i]? =some o:=by exact rfl)(hg:gd ops o=some g:=by exact rfl)
    (e: ∀K:Fr→Ob→Prop,K fr' ob'→hop1 Tryz.prog (nx+4*i) [] g o.op o.dst K fr ob:=by intro K h;simp only[sH,↓sP,sA,tyS,simprocAttr];(repeat refine AI ?_);exact h):hlexG Tryz.prog ops nx Q (i::l) fr ob:=
  aZ ho hg fun K hK=>e K (hK _ _ h)
variable {cr rd:List Nat}{l:nO}{C:jT}
theorem W0 (h:hwalk2 Tryz.prog ops nx Q l (if isEff o.op=true then C else(i,if hgd g fr=some true then touch o.op (ev fr)else [])::C) fr' ob')(ho:ops[i]? =some o:=by exact rfl)(hg:gd ops o=some g:=by exact rfl)
    (e: ∀K:Fr→Ob→Prop,K fr' ob'→hop1 Tryz.prog (nx+4*i) (cr.flatMap (ids4 nx)++rd.flatMap (getF C)) g o.op o.dst K fr ob:=by intro K h;simp only[sH,↓sP,sA,tyS,simprocAttr];(repeat refine AI ?_);exact h):hwalk2 Tryz.prog ops nx Q ((i,cr,rd)::l) C fr ob:=
  aV ho hg fun K hK=>e K (hK _ _ h)
theorem WG0 (h:hwalk2G Tryz.prog ops nx Q l (if isEff o.op=true then C else(i,if hgd g fr=some true then touch o.op (ev fr)else [])::C) fr' ob')(ho:ops[i]? =some o:=by exact rfl)(hg:gd ops o=some g:=by exact rfl)
    (e: ∀K:Fr→Ob→Prop,K fr' ob'→hop1 Tryz.prog (nx+4*i) (cr.flatMap (ids4 nx)++rd.flatMap (getF C)) g o.op o.dst K fr ob:=by intro K h;simp only[sH,↓sP,sA,tyS,simprocAttr];(repeat refine AI ?_);exact h):hwalk2G Tryz.prog ops nx Q ((i,cr,rd)::l) C fr ob:=
  cC ho hg fun K hK=>e K (hK _ _ h)
end
theorem nM {α:Type}{l:List α}{i:Nat}(h:i<l.length)(f:α→CV):nth (l.map f) i=f l[i]:=aU h
theorem aI {a b:Prop}(x:a)(y:b):a∧b:=⟨x,y⟩
theorem TQ {a b q:Prop}(r:q)(h:b)(e:q→b→a:=by intro r h;simp only[↓sP,sA,tyS,simprocAttr,r];exact h):a:=e r h
theorem T6 {a b:Prop}(h:b)(e:b→a:=by intro h;simp only[sH,↓sP,sA,tyS,simprocAttr,F];exact h):a:=e h
section
variable {Q:Fr→Ob→Prop}
theorem SF {l:List Nat}(h:hlex Tryz.prog ops nx Q l fr' ob')(ho:ops[i]? =some o:=by exact rfl)(hg:gd ops o=some g:=by exact rfl)
    (e: ∀K:Fr→Ob→Prop,K fr' ob'→hop1 Tryz.prog (nx+4*i) [] g o.op o.dst K fr ob:=by intro K h;simp only[sH,↓sP,sA,tyS,simprocAttr,F];(repeat refine AI ?_);exact h):hlex Tryz.prog ops nx Q (i::l) fr ob:=
  aE ho hg fun K hK=>e K (hK _ _ h)
variable {cr rd:List Nat}{l:nO}{C:jT}
theorem WF (h:hwalk2 Tryz.prog ops nx Q l (if isEff o.op=true then C else(i,if hgd g fr=some true then touch o.op (ev fr)else [])::C) fr' ob')(ho:ops[i]? =some o:=by exact rfl)(hg:gd ops o=some g:=by exact rfl)
    (e: ∀K:Fr→Ob→Prop,K fr' ob'→hop1 Tryz.prog (nx+4*i) (cr.flatMap (ids4 nx)++rd.flatMap (getF C)) g o.op o.dst K fr ob:=by intro K h;simp only[sH,↓sP,sA,tyS,simprocAttr,F];(repeat refine AI ?_);exact h):hwalk2 Tryz.prog ops nx Q ((i,cr,rd)::l) C fr ob:=
  aV ho hg fun K hK=>e K (hK _ _ h)
theorem WGF (h:hwalk2G Tryz.prog ops nx Q l (if isEff o.op=true then C else(i,if hgd g fr=some true then touch o.op (ev fr)else [])::C) fr' ob')(ho:ops[i]? =some o:=by exact rfl)(hg:gd ops o=some g:=by exact rfl)
    (e: ∀K:Fr→Ob→Prop,K fr' ob'→hop1 Tryz.prog (nx+4*i) (cr.flatMap (ids4 nx)++rd.flatMap (getF C)) g o.op o.dst K fr ob:=by intro K h;simp only[sH,↓sP,sA,tyS,simprocAttr,F];(repeat refine AI ?_);exact h):hwalk2G Tryz.prog ops nx Q ((i,cr,rd)::l) C fr ob:=
  cC ho hg fun K hK=>e K (hK _ _ h)
end
section
variable {Q:Fr→Ob→Prop}
theorem SGF {l:List Nat}(h:hlexG Tryz.prog ops nx Q l fr' ob')(ho:ops[i]? =some o:=by exact rfl)(hg:gd ops o=some g:=by exact rfl)
    (e: ∀K:Fr→Ob→Prop,K fr' ob'→hop1 Tryz.prog (nx+4*i) [] g o.op o.dst K fr ob:=by intro K h;simp only[sH,↓sP,sA,tyS,simprocAttr,F];(repeat refine AI ?_);exact h):hlexG Tryz.prog ops nx Q (i::l) fr ob:=
  aZ ho hg fun K hK=>e K (hK _ _ h)
end
theorem RF {id nx':Nat}{c2:Code}{Q:dY}(h:Hw Tryz.prog n k c2 Q fr' ob' nx')(hd:fM n ops=true:=by kernel_rfl)
    (e: ∀K:Fr→Ob→Nat→Prop,K fr' ob' nx'→hlex Tryz.prog ops nx (fun fr' ob'=>hthen K Q .normal fr' ob' (nx+4*ops.size)) (List.range ops.size) fr ob:=by intro K h;simp only[↓sP,sA,tyS,simprocAttr,F];(repeat refine AI ?_);exact h):
    Hw Tryz.prog n k (.seq (.region id ops false) c2) Q fr ob nx:=aC fun K hK=>aD hd (e K (hK _ _ _ h))
theorem RT {a b:Prop}{x y:Array ResultVar}(r:x=y)(h:b)(e:x=y→b→a:=by intro r h;simp only[bK,r,bH,bJ,bG,↓sP,sA,tyS,simprocAttr];exact h):a:=e r h
theorem T3 {a b:Prop}(h:b)(e:b→a:=by intro h;simp only[↓sP,sA,tyS,simprocAttr];exact h):a:=e h
theorem T4 {a b:Prop}(h:b)(e:b→a:=by intro h;simp only[sE,↓reduceIte,simprocAttr];exact h):a:=e h
theorem T5 {a b:Prop}(h:b)(e:b→a:=by intro h;simp only[sH,↓sP,sA,tyS,simprocAttr];exact h):a:=e h
theorem CT {x y:Code}{o:Operand}{Q:dY}(hb:ev fr o= .c (.bool true))(h:Hw Tryz.prog n k x Q fr ob nx):Hw Tryz.prog n k (.cond o x y) Q fr ob nx:=aJ hb (fun _=>h) (fun hb=>by cases hb)
theorem CF {x y:Code}{o:Operand}{Q:dY}(hb:ev fr o= .c (.bool false))(h:Hw Tryz.prog n k y Q fr ob nx):Hw Tryz.prog n k (.cond o x y) Q fr ob nx:=aJ hb (fun hb=>by cases hb) (fun _=>h)
theorem FW {P:Program}{f:FuncId}{fn:Func}{code:Code}{args:List HV}{R:HV→Ob→Prop}(hf:P.funcs[f]? =some fn)(h:Hw P fn.ntmps k code (bK P fn.results.toList k R) (rE 0 args) ob k)(hb:fn.body=some code:=by exact rfl)
    (hok:eO P f=true:=by kernel_rfl) (hloc:LocOk k args ob:=by exact cR _) (hn:args.length≤fn.ntmps:=by exact Nat.le_of_ble_eq_true rfl):HFn P f args k ob R:=bQ hf hb hok hloc hn h
theorem QW {id:Nat}{Q:dY}(h:hlex Tryz.prog ops nx (fun fr' ob'=>Q .normal fr' ob' (nx+4*ops.size)) (List.range ops.size) fr ob)(hd:fM n ops=true:=by kernel_rfl)(hp:jV ops (List.range ops.size) (Array.replicate ops.size false)=true:=by kernel_rfl)
    (hq:ops.all (fun o=>bV o.op)=true:=by kernel_rfl):Hw Tryz.prog n k (.region id ops true) Q fr ob nx:=gY mixed hd hp hq h
theorem QR {id:Nat}{b:Prop}{Q:dY}(h:b)(hd:fM n ops=true:=by kernel_rfl)(hp:jV ops (List.range ops.size) (Array.replicate ops.size false)=true:=by kernel_rfl)(hq:ops.all (fun o=>bV o.op)=true:=by kernel_rfl)
    (e:b→hlex Tryz.prog ops nx (fun fr' ob'=>Q .normal fr' ob' (nx+4*ops.size)) (List.range ops.size) fr ob:=by intro h;simp only[sR,simprocAttr];exact h):Hw Tryz.prog n k (.region id ops true) Q fr ob nx:=gY mixed hd hp hq (e h)
theorem DW {id:Nat}{Q:dY}(plan:nO)(ms:List Nat)(h:hwalk2 Tryz.prog ops nx (fun fr' ob'=>Q .normal fr' ob' (nx+4*ops.size)) plan [] fr ob)(hd:fM n ops=true:=by kernel_rfl)(hp:jV ops (plan.map (·.1)) (Array.replicate ops.size false)=true:=by kernel_rfl)
    (hw1:aL2 ops ms=true:=by kernel_rfl) (hw2:ms.all (fun m=>decide (m<2^ms.length))=true:=by kernel_rfl) (hl:plan.length=ops.size:=by exact rfl) (hc:chk ops (aG5 ms) plan []=true:=by kernel_rfl):Hw Tryz.prog n k (.region id ops true) Q fr ob nx:=
  lL mixed plan ms hd hp hw1 hw2 hl hc h
theorem HS {l:List Nat}{Q:Fr→Ob→Prop}(ho:ops[i]? =some o)(hg:gd ops o=some none)(h: ∀K:Fr→Ob→Prop,(∀fr ob,hlex Tryz.prog ops nx Q l fr ob→K fr ob)→hop1 Tryz.prog (nx+4*i) [] none o.op o.dst K fr ob):hlex Tryz.prog ops nx Q (i::l) fr ob:=aE ho hg h
section
variable {P:Program}{av:List Nat}{f:FuncId}{nid:Nat}{K:HV→Ob→Prop}{a b c d:CV}{R:CV→Prop}{R2:CV→CV→Prop}
theorem C1 (h:cF P f [a] R)(hK: ∀v,R v→K (.c v) ob)(hf:ob nid=none∧ob (nid+1)=none∧ob (nid+2)=none∧ob (nid+3)=none:=by exact⟨rfl,rfl,rfl,rfl⟩):HCall P av f [.c a] ob nid K:=cB (args:=[a]) h hf hK
theorem C2 (h:cF P f [a,b] R)(hK: ∀v,R v→K (.c v) ob)(hf:ob nid=none∧ob (nid+1)=none∧ob (nid+2)=none∧ob (nid+3)=none:=by exact⟨rfl,rfl,rfl,rfl⟩):HCall P av f [.c a,.c b] ob nid K:=cB (args:=[a,b]) h hf hK
theorem C3 (h:cF P f [a,b,c] R)(hK: ∀v,R v→K (.c v) ob)(hf:ob nid=none∧ob (nid+1)=none∧ob (nid+2)=none∧ob (nid+3)=none:=by exact⟨rfl,rfl,rfl,rfl⟩):HCall P av f [.c a,.c b,.c c] ob nid K:=cB (args:=[a,b,c]) h hf hK
theorem D1 (h:iA P f [a] R2)(hK: ∀u v,R2 u v→K (.tup [.c u,.c v]) ob)(hf:Free4 ob nid:=by exact⟨rfl,rfl,rfl,rfl⟩):HCall P av f [.c a] ob nid K:=eP (args:=[a]) h hf hK
theorem D2 (h:iA P f [a,b] R2)(hK: ∀u v,R2 u v→K (.tup [.c u,.c v]) ob)(hf:Free4 ob nid:=by exact⟨rfl,rfl,rfl,rfl⟩):HCall P av f [.c a,.c b] ob nid K:=eP (args:=[a,b]) h hf hK
end
section
variable {Q:Fr→Ob→Prop}{l:List Nat}{f:FuncId}{args:List CV}{t:CV}{R:CV→Prop}{ff:HV→Fr}
end
structure Bx (b:Prop):Prop where
  o:b
end
end Go.Proofs.YthedbjfipmkpiaaGreatDoor
namespace Go.Hl
open Go
open Go.ChangeMaps (setBlock heap_setBlock_same heap_setBlock_other)
section
variable {P:Program}{n k:Nat}{ops:Array Oper}{nx i:Nat}{Kf:Fr→Ob→Prop}{fr:Fr}{ob:Ob}
def Lx (P:Program)(n k:Nat)(ops:Array Oper)(nx:Nat)(Kf:Fr→Ob→Prop)(i:Nat)(fr:Fr)(ob:Ob):Prop:=
 ∀(c:Ctx) (a:Act) (w:World) (Q:Exit→Act→World→Prop),c.n=n→c.M0=(· <k)→(∀fr' ob' a' w',Kf fr' ob'→RepA c (· <nx+4*ops.size) fr' ob' a' w'→Q .normal a' w')→RepA c (· <nx+4*i) fr ob a w→wpOpsIn c.F 0 P ops Q (List.range' i (ops.size-i)) a w
theorem bA6 {id:Nat}{Q:dY}(h:Lx P n k ops nx (fun fr' ob'=>Q .normal fr' ob' (nx+4*ops.size)) 0 fr ob):Hw P n k (.region id ops false) Q fr ob nx:=by
 intro c a w hn hk hz hA;refine wpIn_region ?_;rw[List.range_eq_range'];exact h c a w _ hn hk (fun fr' ob' a' w' hK hA'=>⟨fr',ob',_,hK,hA'⟩) hA
theorem xE (hi:i=ops.size)(h:Kf fr ob):Lx P n k ops nx Kf i fr ob:=by
 subst hi;intro c a w Q hn hk hQ hA;simp only[Nat.sub_self,List.range'_zero,wpOpsIn];exact hQ _ _ _ _ h hA
theorem aN9 {o:Oper}{g:Option (Nat×Bool)}(hd:fM n ops=true)(ho:ops[i]? =some o)(hg:gd ops o=some g)(h: ∀K:Fr→Ob→Prop,(∀fr ob,Lx P n k ops nx Kf (i+1) fr ob→K fr ob)→hop1 P (nx+4*i) [] g o.op o.dst K fr ob):Lx P n k ops nx Kf i fr ob:=by
 intro c a w Q hn hk hQ hA;have hi:i<ops.size:=(Array.getElem?_eq_some_iff.1 ho).1;rw[show ops.size-i=(ops.size-(i+1))+1 by omega,List.range'_succ,wpOpsIn_cons];have hI:=tG (fun _ _ x=>x) (lN ho hg (h _ (fun _ _ x=>x)));refine wpOpIn_mono (fun a' w' hx=>?_) (kQ (Q:=Q) (M':=(· <nx+4*(i+1))) hA (fun t ht=>by omega) (fun i hi=>by omega) (fun t ht=>by omega) (by rw[hn];exact gR hd) hI);obtain⟨fr',ob',hK,hA'⟩:=hx;exact hK c a' w' Q hn hk hQ hA'
theorem xF {o:Oper}(hd:fM n ops=true)(ho:ops[i]? =some o)(hg:o.guard=none)(hn0: ∀c,o.op≠ .defer c)
  (h: ∀(c:Ctx) (a:Act) (w:World) (ρ:Env),RepA' c (· <nx+4*i) fr ob a w ρ→(∀t,o.dst=some t→t<c.n)→ ∃y w' fr' ob',((execOp a.eval o).run P w= .ok (.value y) w'∨((execOp a.eval o).run P w= .ok .skip w'∧y=undef))∧Lx P n k ops nx Kf (i+1) fr' ob'∧RepA c (· <nx+4*(i+1)) fr' ob' (a.put o.dst y) w'):Lx P n k ops nx Kf i fr ob:=by
 intro c a w Q hn hk hQ hA;have hi:i<ops.size:=(Array.getElem?_eq_some_iff.1 ho).1;rw[show ops.size-i=(ops.size-(i+1))+1 by omega,List.range'_succ,wpOpsIn_cons];obtain⟨ρ,hA⟩:=hA;unfold wpOpIn;rw[ho];simp only;rw[if_pos (by unfold Region.wanted;rw[hg])];obtain⟨y,w',fr',ob',hrun,hL,hA'⟩:=h c a w ρ hA (fun t ht=>by rw[hn];exact gR hd o (Array.mem_of_getElem? ho) t ht);refine⟨fun _ _=>trivial,?_⟩;rw[Oper.semAt_eq _ _ _ hn0];rcases hrun with hrun|⟨hrun,rfl⟩
 · rw[hrun];exact hL c _ w' Q hn hk hQ hA'
 · rw[hrun];exact hL c _ w' Q hn hk hQ hA'
section
variable {c:Ctx}{M:Nat→Prop}{a:Act}{w:World}{ρ:Env}
theorem cI6 (h:RepA' c M fr ob a w ρ){x:Operand}{id m:Nat}(hx:ev fr x= .ptr id 0){s q:Nat}{seen:Array Nat}(ho:ob id=some (.it m s seen q)){es:Array MapEntry}{ck:Nat}(hm:ob m=some (.raw es ck)):
  ∃b bm,ρ id=some (.blk b)∧a.eval x= .pointer (some ⟨b,0,none⟩)∧w.heap[b]? =some (.mapIter (some bm) s seen q)∧w.heap[bm]? =some (.map es ck)∧ρ m=some (.mp bm fun _=>none):=by
 obtain⟨y,he,h1,hp⟩:=bN5 h hx;obtain⟨b,x',h2,h3,h4⟩:=h.s.objs id _ ho;obtain⟨bm,h5,h6⟩:=h.s.objs m _ hm;have:=h4 _ _ h5;subst this;exact⟨b,x',h2,by grind,h3,h6,h5⟩
end
theorem aV9 {o:Oper}{t:TypeId}{d:Nat}(hd:fM n ops=true)(ho:ops[i]? =some o)(hg:o.guard=none)(hop:o.op= .makeMap t none)(hdst:o.dst=some d)
  (h:Lx P n k ops nx Kf (i+1) (upd fr d (.mapr (nx+4*i))) (upd ob (nx+4*i) (some (.raw (gQ []) 0)))):Lx P n k ops nx Kf i fr ob:=by
 refine xF hd ho hg (by rw[hop];intro c hc;cases hc) fun c a w ρ hA hdd=>?_;have:=hA.newObj (d:=o.dst) (w1:=w) (obj:= .map #[] 0) (nid:=nx+4*i) (M':=(· <nx+4*(i+1))) (v:= .mapr (nx+4*i)) (x:= .map (some w.heap.size)) (L:= .mp w.heap.size (fun _=>none)) (o:= .raw (gQ []) 0) (by omega) (fun j hj=>by omega) (by omega) rfl rfl rfl rfl ?_ (fun _=>?_) trivial (.inr ?_) (by simp only[HV.men];omega) hdd
 · simp only[hdst]at this⊢;exact⟨.map (some w.heap.size),w.alloc (.map #[] 0),_,_,.inl (by simp only[execOp,hop];rfl),h,⟨_,this⟩⟩
 ·
  rintro b (hb|⟨k,v,e1,e2⟩)
  · exact hb
  · cases e1
 · exact⟨_,aT _ _ _,heap_alloc_new w _⟩
 · refine cP ?_ rfl rfl;simp only[RepH];refine⟨_,rfl,by simp[Value.oneCell'],fun b hf hρ=>?_⟩;rw[aT]at hρ;cases hρ;rfl
theorem bQ9 {o:Oper}{t kt et:TypeId}{x:Operand}{d id:Nat}{es:Array MapEntry}{ck:Nat}(hd:fM n ops=true)(ho:ops[i]? =some o)(hg:o.guard=none)(hop:o.op= .range t x)(hdst:o.dst=some d)
  (hut:P.underlying t=some (.map kt et)) (hx:ev fr x= .mapr id) (hob:ob id=some (.raw es ck))
  (h:Lx P n k ops nx Kf (i+1) (upd fr d (.ptr (nx+4*i) 0)) (upd ob (nx+4*i) (some (.it id ck #[] ck)))):Lx P n k ops nx Kf i fr ob:=by
 refine xF hd ho hg (by rw[hop];intro c hc;cases hc) fun c a w ρ hA hdd=>?_;obtain⟨b,h1,h2,h3⟩:=aT1 hA hx hob;have hrun:(execOp a.eval o).run P w= .ok (.value (.pointer (some ⟨w.heap.size,0,none⟩))) (w.alloc (.mapIter (some b) ck #[] ck)):=by
  have e:(newObj (.mapIter (some b) ck #[] ck)).run P w= .ok w.heap.size (w.alloc (.mapIter (some b) ck #[] ck)):=rfl;simp[execOp,hop,h2,Instr.range,run_underlying hut,MapKept.run_getObj_map h3,Result.andThen,e]
 have hid:=(hA.mo id _ hob).1;have:=hA.newObj (d:=o.dst) (w1:=w) (obj:= .mapIter (some b) ck #[] ck) (nid:=nx+4*i) (M':=(· <nx+4*(i+1))) (v:= .ptr (nx+4*i) 0) (x:= .pointer (some ⟨w.heap.size,0,none⟩)) (L:= .blk w.heap.size) (o:= .it id ck #[] ck) (by omega) (fun j hj=>by omega) (by omega) rfl rfl rfl rfl ?_ (fun _=>?_) (by simp only[HO.men];omega) (.inr ?_) (by simp only[HV.men];omega) hdd
 · simp only[hdst]at this⊢;exact⟨_,_,_,_,.inl hrun,h,⟨_,this⟩⟩
 · rintro b hb;exact hb
 · refine⟨_,b,aT _ _ _,heap_alloc_new w _,fun bm hf hρ=>?_⟩;rw[bA _ _ (by omega),h1]at hρ;cases hρ;rfl
 · refine cP ?_ rfl rfl;simp only[RepH];refine⟨_,rfl,by simp[Value.oneCell'],fun b hρ=>?_⟩;rw[aT]at hρ;cases hρ;rfl
theorem lS {o:Oper}{t kt et:TypeId}{m kx vx:Operand}{id:Nat}{l:List (Int×List UInt8)}{z:Int}{s:List UInt8}(hd:fM n ops=true)(ho:ops[i]? =some o)(hg:o.guard=none)(hop:o.op= .insert t m kx vx)(hdst:o.dst=none)
  (hut:P.underlying t=some (.map kt et)) (hkt:P.underlying kt=some (.int .i64)) (hm:ev fr m= .mapr id) (hob:ob id=some (.raw (gQ l) l.length)) (hk:ev fr kx= .c (.int .i64 z)) (hv:ev fr vx= .c (.str s)) (hno:lkG l z=none)
  (h:Lx P n k ops nx Kf (i+1) fr (upd ob id (some (.raw (gQ (l++[(z,s)])) (l.length+1))))):Lx P n k ops nx Kf i fr ob:=by
 refine xF hd ho hg (by rw[hop];intro c hc;cases hc) fun c a w ρ hA hdd=>?_;obtain⟨b,h1,h2,h3⟩:=aT1 hA hm hob;obtain⟨r,f1,f2⟩:=pW z 0 0 l;rw[hno]at f2;have hr:r=none:=by cases r with|none=>rfl|some x=>simp at f2
 subst hr;have hrun:(execOp a.eval o).run P w= .ok .skip (setBlock w b (.map (gQ (l++[(z,s)])) (l.length+1))):=by
  have f3:Instr.findNow (.int .i64) (.int .i64 z) (gQ l).toList 0=some none:=by simpa[gQ]using f1
  simp[execOp,hop,h2,dG hA hk,kV hA hv,Instr.mapUpdate,run_underlying hut,MapKept.run_getObj_map h3,aT0 hkt,Instr.findKey,run_underlying hkt,f3,MapKept.run_setObj_map _ h3,Result.andThen,setBlock,bE3]
 have hid:=(hA.mo id _ hob).1;have:=hA.setObj (d:=none) (v:= .junk) (x:=undef) (w':=setBlock w b (.map (gQ (l++[(z,s)])) (l.length+1))) (o:= .raw (gQ (l++[(z,s)])) (l.length+1)) h1 (.inl rfl) hid (fun b' hb'=>heap_setBlock_other h3 _ hb') (by simp[setBlock]) rfl rfl rfl (fun _=>⟨b,h1,heap_setBlock_same h3 _⟩) trivial (fun _=> .inl rfl) (by simp[HV.men]) (fun t ht=>by cases ht);rw[hdst];exact⟨undef,_,_,_,.inr ⟨hrun,rfl⟩,h,⟨_,this.weaken (fun j hj=>by omega)⟩⟩
theorem bG6 {l:List (Int×List UInt8)}: ∀x∈(gQ l).toList,x.born<l.length:=fun x hx=>by
 obtain⟨j,hj,rfl⟩:=aZ4 0 l x (by simpa[gQ]using hx);simpa using hj
theorem cB5 {w:World}{ρ:Env}{O:Nat→Prop}(z:Int)(s:List UInt8):RepV w ρ O (.tup [.c (.int .i64 z),.c (.str s)]) (.tuple #[.int .i64 z,.string ⟨s.toArray⟩]):=by
 refine⟨?_,rfl⟩;simp only[RepH];exact⟨[_,_],rfl,by simp only[RepHV];exact⟨_,_,rfl,bS (by simp[RepC]) rfl rfl,_,_,rfl,bS (by simp[RepC]) rfl rfl,rfl⟩⟩
theorem cB6 {o:Oper}{x:Operand}{d it id:Nat}{l:List (Int×List UInt8)}{seen:Array Nat}(hd:fM n ops=true)(ho:ops[i]? =some o)(hg:o.guard=none)(hop:o.op= .next x false)(hdst:o.dst=some d)
  (hx:ev fr x= .ptr it 0) (hit:ob it=some (.it id l.length seen l.length)) (hid:ob id=some (.raw (gQ l) l.length))
  (hdone:(∀j,j<l.length→seen.contains j=true)→Lx P n k ops nx Kf (i+1) (upd fr d (.tup [.c (.bool false)])) ob)
  (hnext: ∀j (hj:j<l.length),seen.contains j=false→Lx P n k ops nx Kf (i+1) (upd fr d (.tup [.c (.bool true),.c (.int .i64 l[j].1),.c (.str l[j].2)])) (upd ob it (some (.it id l.length (seen.push j) l.length)))):Lx P n k ops nx Kf i fr ob:=by
 refine xF hd ho hg (by rw[hop];intro c hc;cases hc) fun c a w ρ hA hdd=>?_;obtain⟨b,bm,h1,h2,h3,h4,h5⟩:=cI6 hA hx hit hid;rcases run_next_at (P:=P) w o.type b bm l.length l.length seen (gQ l) l.length h3 h4 bG6 (Nat.le_refl _)with⟨e1,hrun⟩|⟨e,he,w1,hw1,hrun⟩
 ·
  have hall: ∀j,j<l.length→seen.contains j=true:=fun j hj=>by
   have hin:=bN9 0 l j hj;cases hc:seen.contains j with
   |true=>rfl
   |false=>
    exfalso;have:(⟨.int .i64 l[j].1,.string ⟨l[j].2.toArray⟩,0+j⟩:MapEntry)∈leftOf (gQ l) seen:=by
     unfold leftOf;rw[Array.mem_filter];exact⟨by simpa[gQ]using hin,by simp only[Nat.zero_add,hc,Bool.not_false]⟩
    rw[Array.eq_empty_of_size_eq_zero e1]at this;simp at this
  have hv:RepV w ρ (Owned ρ c.X) (.tup [.c (.bool false)]) (.tuple #[.bool false]):=by
   refine⟨?_,rfl⟩;simp only[RepH];exact⟨[_],rfl,by simp only[RepHV];exact⟨_,_,rfl,bS (by simp[RepC]) rfl rfl,rfl⟩⟩
  have:=hA.value (d:=o.dst) (.inr hv) (by simp[HV.men,HV.menL]) hdd;rw[hdst]at this⊢;exact⟨_,_,_,_,.inl (by simp[execOp,hop,h2,hrun,Result.andThen]),hdone hall,⟨_,this.weaken (fun j hj=>by omega)⟩⟩
 ·
  have hmem:e∈esL 0 l∧seen.contains e.born=false:=by
   unfold leftOf at he;have:e∈Array.filter (fun e=>!seen.contains e.born) (gQ l):=by simpa using he
   rw[Array.mem_filter]at this;exact⟨by simpa[gQ]using this.1,by simpa using this.2⟩
  obtain⟨j,hj,rfl⟩:=aZ4 0 l e hmem.1;have hc:seen.contains j=false:=by simpa using hmem.2
  have hw:w1.heap=w.heap∧w1.os=w.os∧w1.tape=w.tape∧w1.output=w.output:=by rcases hw1 with rfl|rfl<;>exact⟨rfl,rfl,rfl,rfl⟩
  obtain⟨w2,hw2⟩: ∃w2,w2=setBlock w1 b (.mapIter (some bm) l.length (seen.push j) l.length):=⟨_,rfl⟩;have hbl: ∀b',b'≠b→w2.heap[b']? =w.heap[b']? :=fun b' hb'=>by
   rw[hw2,setBlock,←hw.1];simp only;rw[Array.getElem?_setIfInBounds_ne (fun e=>hb' e.symm)]
  have hbs:w2.heap[b]? =some (.mapIter (some bm) l.length (seen.push j) l.length):=by
   rw[hw2,setBlock,hw.1];simp only;have:=(Array.getElem?_eq_some_iff.1 h3).1;rw[Array.getElem?_setIfInBounds_self];simp[this]
  have hm:=(hA.mo it _ hit).1;have hmi:HO.men (· <nx+4*i) (.it id l.length (seen.push j) l.length):=by have:=(hA.mo id _ hid).1;simpa[HO.men]using this
  have hv: ∀w':World,RepV w' ρ (Owned ρ c.X) (.tup [.c (.bool true),.c (.int .i64 l[j].1),.c (.str l[j].2)]) (.tuple #[.bool true,.int .i64 l[j].1,.string ⟨l[j].2.toArray⟩]):=fun w'=>by
   refine⟨?_,rfl⟩;simp only[RepH];exact⟨[_,_,_],rfl,by simp only[RepHV];exact⟨_,_,rfl,bS (by simp[RepC]) rfl rfl,_,_,rfl,bS (by simp[RepC]) rfl rfl,_,_,rfl,bS (by simp[RepC]) rfl rfl,rfl⟩⟩
  have:=hA.setObj (d:=o.dst) (v:= .tup [.c (.bool true),.c (.int .i64 l[j].1),.c (.str l[j].2)]) (x:= .tuple #[.bool true,.int .i64 l[j].1,.string ⟨l[j].2.toArray⟩]) (w':=w2) (o:= .it id l.length (seen.push j) l.length) h1 rfl hm hbl (by rw[hw2,setBlock,hw.1];simp) (by rw[hw2];exact hw.2.1) (by rw[hw2];exact hw.2.2.1) (by rw[hw2];exact hw.2.2.2) (fun _=>⟨b,bm,h1,hbs,fun bm' hf' hρ'=>by rw[h5]at hρ';cases hρ';rfl⟩) hmi (fun _=> .inr (hv w2)) (by simp[HV.men,HV.menL]) hdd;rw[hdst]at this⊢;rw[Nat.zero_add,←hw2]at hrun;exact⟨_,w2,_,_,.inl (by simp[execOp,hop,h2,hrun,Result.andThen]),hnext j hj hc,⟨_,this.weaken (fun j hj=>by omega)⟩⟩
theorem bR0 {o:Oper}{x:Operand}{d it id:Nat}{l:List (Int×List UInt8)}{seen:Array Nat}{j:Nat}(hj:j<l.length)(hd:fM n ops=true)(ho:ops[i]? =some o)(hg:o.guard=none)(hop:o.op= .entry x)(hdst:o.dst=some d)
  (hx:ev fr x= .ptr it 0) (hit:ob it=some (.it id l.length (seen.push j) l.length)) (hid:ob id=some (.raw (gQ l) l.length))
  (h:Lx P n k ops nx Kf (i+1) (upd fr d (.tup [.c (.int .i64 l[j].1),.c (.str l[j].2)])) ob):Lx P n k ops nx Kf i fr ob:=by
 refine xF hd ho hg (by rw[hop];intro c hc;cases hc) fun c a w ρ hA hdd=>?_;obtain⟨b,bm,h1,h2,h3,h4,h5⟩:=cI6 hA hx hit hid;have hnd: ∀(b0:Nat) (l:List (Int×List UInt8)),((esL b0 l).map (·.born)).Nodup∧ ∀y∈(esL b0 l).map (·.born),b0≤y:=by
  intro b0 l;induction l generalizing b0 with
  |nil=>simp[esL]
  |cons y l ih=>
   obtain⟨i1,i2⟩:=ih (b0+1);refine⟨?_,?_⟩
   · simp only[esL,List.map_cons,List.nodup_cons];exact⟨fun hin=>by have:=i2 _ hin;omega,i1⟩
   ·
    simp only[esL,List.map_cons,List.mem_cons];rintro z (rfl|hz)
    · exact Nat.le_refl _
    · have:=i2 z hz;omega
 have hin:=bN9 0 l j hj;have hrun:=run_entry_at (P:=P) w b bm l.length seen (gQ l) l.length ⟨.int .i64 l[j].1,.string ⟨l[j].2.toArray⟩,0+j⟩ (by simpa using h3) h4 (by simpa[gQ]using hin) (by simpa[gQ]using(hnd 0 l).1);have:=hA.value (d:=o.dst) (.inr (cB5 l[j].1 l[j].2)) (by simp[HV.men,HV.menL]) hdd;rw[hdst]at this⊢;exact⟨_,_,_,_,.inl (by simp[execOp,hop,h2,hrun,Result.andThen]),h,⟨_,this.weaken (fun j hj=>by omega)⟩⟩
end
end Go.Hl
namespace Go.Pl
open Go Go.Hl
def eB (c:UInt8):Bool:=decide ((33:Int)≤c.toNat)&&decide ((c.toNat:Int)≤125)&&((c.toNat:Int) !=37)
def qC (n:Nat):UInt8:=([48,49,50,51,52,53,54,55,56,57,65,66,67,68,69,70]:List UInt8).getD n 0
def mY (c:UInt8):List UInt8:=if eB c then [c]else [37,qC (c.toNat/16),qC (c.toNat%16)]
def dC (w:aL):aL:=w.flatMap mY
def mK (w:aL):aL:=if w=[]then [126]else dC w
def sizeW (w:aL):Nat:=max (dC w).length 1
@[simp] theorem cP0 :dC []=[]:=rfl
theorem cB7 (c:UInt8):(mY c).length≤3:=by grind[mY]
theorem bR1 (c:UInt8):1≤(mY c).length:=by grind[mY]
theorem xG (w:aL):(dC w).length≤3*w.length:=by
 induction w with
 |nil=>simp_all
 |cons c w ih=>
  grind[cB7,dC,List.length_append,List.length_cons]
theorem aO0 (w:aL):w.length≤(dC w).length:=by
 induction w with
 |nil=>grind
 |cons c w ih=>
  grind[bR1,dC,List.length_append,List.length_cons]
variable {i:Nat}
theorem xH {w:aL}(h:i<w.length):dC (w.take (i+1))=dC (w.take i)++mY w[i]:=by
 simp only[List.take_succ_eq_append_getElem h,dC,List.flatMap_append,List.flatMap_cons,List.flatMap_nil,List.append_nil]
theorem pJ (w:aL)(i:Nat):(dC (w.take i)).length≤(dC w).length:=by
 have:dC w=dC (w.take i)++dC (w.drop i):=by simp[dC,←List.flatMap_append]
 grind
theorem xI (w:aL):(mK w).length=sizeW w:=by
 unfold mK sizeW;split
 · simp_all
 · rename_i h;have:=aO0 w;grind[List.length_pos_iff]
theorem eT (w:aL):sizeW w≤3*w.length+1:=by grind[xG,sizeW]
theorem bG7 (w:aL):1≤sizeW w:=by unfold sizeW;omega
theorem cT9 (n:Nat):(if(1:Int)>(n:Int)then(1:Int)else(n:Int))=((max n 1:Nat):Int):=by split<;>omega
theorem cU0 (c:UInt8):Int.fdiv (c.toNat:Int) (2^(min 4 IntKind.u8.bits))=((c.toNat/16:Nat):Int):=by
 rw[show min 4 IntKind.u8.bits=4 from rfl,Int.fdiv_eq_ediv_of_nonneg _ (by omega)];rfl
theorem cQ3 (c:UInt8):IntKind.u8.wrap ((BitVec.ofInt IntKind.u8.bits (c.toNat:Int)&&&BitVec.ofInt IntKind.u8.bits 15).toNat:Int)=((c.toNat%16:Nat):Int):=by
 have h:=c.toNat_lt;have:(BitVec.ofInt IntKind.u8.bits (c.toNat:Int)&&&BitVec.ofInt IntKind.u8.bits 15).toNat=c.toNat%16:=by
  rw[BitVec.toNat_and];have e1:(BitVec.ofInt IntKind.u8.bits (c.toNat:Int)).toNat=c.toNat:=by simp[IntKind.bits]
  have e2:(BitVec.ofInt IntKind.u8.bits 15).toNat=15:=rfl;rw[e1,e2];exact Nat.and_two_pow_sub_one_eq_mod _ 4
 grind[IntWalk.u8_in]
theorem cO : ∀bs:List UInt8,CV.denilL (bs.map eR)=bs.map eR
 |[]=>rfl
 |b::bs=>by simp only[List.map_cons,CV.denilL,cO bs];rfl
def jJ :List aL→aL
 |[]=>[]
 |w::l=>mK w++l.flatMap fun v=>32::mK v
theorem bG8 (l:List aL)(w:aL):jJ (l++[w])=jJ l++((if l=[]then []else [32])++mK w):=by
 cases l with
 |nil=>simp[jJ]
 |cons a l=>simp[jJ]
variable {l:List aL}
theorem bG9 (h:i<l.length):jJ (l.take (i+1))=jJ (l.take i)++((if i=0 then []else [32])++mK l[i]):=by grind[List.take_succ_eq_append_getElem,bG8,List.take_eq_nil_iff]
def aO1 (l:List aL):aL:=jJ l++[10]
def jK (ls:List (List aL)):aL:=ls.flatMap aO1
def iE (l:List aL):Nat:=(l.map fun w=>sizeW w+1).sum
def sumD (ls:List (List aL)):Nat:=(ls.map iE).sum
theorem aO2 : ∀(l:List aL),l≠[]→(jJ l).length+1=iE l
 |[],h=>absurd rfl h
 |w::l,_=>by
  have: ∀l:List aL,(l.flatMap fun v=>32::mK v).length=iE l:=by
   intro l;induction l with
   |nil=>rfl
   |cons v l ih=>grind[List.length_append,List.length_cons,xI,iE]
  grind[jJ,List.length_append,xI,iE]
theorem bR2 (h:l≠[]):(aO1 l).length=iE l:=by grind[aO1,List.length_append,aO2]
theorem cB8 (l:List aL):(jJ l).length≤iE l:=by
 cases l with
 |nil=>simp[jJ]
 |cons w l=>grind[aO2]
theorem xJ : ∀{ls:List (List aL)},(∀l∈ls,l≠[])→(jK ls).length=sumD ls
 |[],_=>rfl
 |l::ls,h=>by
  have ih:=xJ (ls:=ls) fun x hx=>h x (List.mem_cons_of_mem _ hx);grind[bR2,List.mem_cons_self,jK,sumD,List.length_append]
variable {ls:List (List aL)}
theorem bH0 (h:i<ls.length):jK (ls.take (i+1))=jK (ls.take i)++aO1 ls[i]:=by
 simp only[List.take_succ_eq_append_getElem h,jK,List.flatMap_append,List.flatMap_cons,List.flatMap_nil,List.append_nil]
theorem bH1 (h:i<l.length):iE (l.take (i+1))=iE (l.take i)+(sizeW l[i]+1):=by
 simp only[List.take_succ_eq_append_getElem h,iE,List.map_append,List.sum_append,List.map_cons,List.map_nil,List.sum_cons,List.sum_nil,Nat.add_zero]
theorem bH2 (h:i<ls.length):sumD (ls.take (i+1))=sumD (ls.take i)+iE ls[i]:=by
 simp only[List.take_succ_eq_append_getElem h,sumD,List.map_append,List.sum_append,List.map_cons,List.map_nil,List.sum_cons,List.sum_nil,Nat.add_zero]
@[simp] theorem cQ4 :jK []=[]:=rfl
@[simp] theorem cQ5 :jJ []=[]:=rfl
@[simp] theorem cQ6 :iE []=0:=rfl
@[simp] theorem cQ7 :sumD []=0:=rfl
theorem rS (l:List aL)(i:Nat):iE (l.take i)≤iE l:=by grind[iE,List.take_append_drop]
theorem aH1 (l:List (List aL))(i:Nat):sumD (l.take i)≤sumD l:=by grind[sumD,List.take_append_drop]
def tN (l:List aL):Int:=
 if l.length=0 then 1 else if 120<l.length then 3 else if l.any (fun w=>decide (32768<w.length))then 3 else 0
def okL (l:List aL):Bool:=tN l==0
theorem kR (l:List aL):okL l=true↔l≠[]∧l.length≤120∧ ∀w∈l,w.length≤32768:=by
 unfold okL tN;constructor
 ·
  intro h;split at h
  · grind
  ·
   split at h
   · grind
   · grind
 grind
theorem bA7 (h:okL l=true):iE l≤11796720:=by
 obtain⟨-,h1,h2⟩:=(kR l).1 h;have key: ∀l:List aL,(∀w∈l,w.length≤32768)→iE l≤98306*l.length:=by
  intro l;induction l with
  |nil=>simp_all
  |cons w l ih=>
   grind[List.mem_cons_of_mem,List.mem_cons_self,eT,iE,List.length_cons]
 grind
theorem cB9 (h: ∀l∈ls,okL l=true):sumD ls≤11796720*ls.length:=by
 induction ls with
 |nil=>simp_all
 |cons l ls ih=>
  grind[List.mem_cons_of_mem,bA7,List.mem_cons_self,sumD,List.length_cons]
def qD (ls:List (List aL)):Int:=
 if 1000<ls.length then 3 else match ls.find? (fun l=>!okL l)with
  |some l=>tN l
  |none=>if 262144<(jK ls).length then 3 else 0
def vI (ls:List (List aL)):aL:=if qD ls=0 then jK ls else []
theorem bH3 (h:1000<ls.length):qD ls=3:=by unfold qD;grind
theorem bR3 (h:ls.length≤1000)(hi:i<ls.length)(h0: ∀l∈ls.take i,okL l=true)(h1:okL ls[i]=false):qD ls=tN ls[i]:=by
 unfold qD;rw[if_neg (by omega)];grind[okL,List.find?_eq_some_iff_append,List.getElem_cons_drop,List.take_append_drop]
theorem cC0 (h:ls.length≤1000)(h0: ∀l∈ls,okL l=true):qD ls=if 262144<(jK ls).length then 3 else 0:=by
 unfold qD;grind
theorem cC1 (h:okL l=false):tN l≠0:=by grind[okL]
theorem xK (h:qD ls≠0):vI ls=[]:=by unfold vI;grind
theorem bA8 (h:qD ls=0):vI ls=jK ls:=by unfold vI;grind
def mT (n:Nat):UInt8:=([48,49,50,51,52,53,54,55,56,57,97,98,99,100,101,102]:List UInt8).getD n 0
def bR4 (c:UInt8):List UInt8:=[mT (c.toNat/16),mT (c.toNat%16)]
def iN (bs:List UInt8):List UInt8:=bs.flatMap bR4
@[simp] theorem cQ8 :iN []=[]:=rfl
theorem lT (bs:List UInt8):(iN bs).length=2*bs.length:=by
 induction bs with
 |nil=>rfl
 |cons c bs ih=>grind[iN,List.length_append,List.length_cons,bR4,List.length_nil]
theorem bH4 {bs:List UInt8}(h:i<bs.length):iN (bs.take (i+1))=iN (bs.take i)++bR4 bs[i]:=by
 simp only[List.take_succ_eq_append_getElem h,iN,List.flatMap_append,List.flatMap_cons,List.flatMap_nil,List.append_nil]
end Go.Pl
namespace Go.Hl
open Go Go.Pl
variable {fn:Func}{f:FuncId}{P:Program}
theorem aB2 {e:Array Value→Sem Value}{args:List CV}{R:CV→Prop}(hf:P.funcs[f]? =some fn)(hname:(fn.name== "runtime.NumGoroutine")=false)
  (hb:fn.body.isNone=true) (hn:Extern.findNext fn=none) (he:Extern.find fn=some e)
  (h: ∀(w:World) (ρ:Env) (O:Nat→Prop) (xs:List Value),RepHV w ρ O (args.map .c) xs→ ∃v x,R v∧RepV w ρ O (.c v) x∧(e xs.toArray).run P w= .ok x w):cF P f args R:=by
 refine⟨by grind[bE0],fun w ρ X xs hS hA hX=> .inr ⟨by grind[eO,Option.isNone_iff_eq_none],?_⟩⟩;obtain⟨v,x,hR,hv,hrun⟩:=h w ρ _ xs hA;refine⟨x,by simp_all[run_callFunc_extern],.c v,cZ,ρ,x,rfl,⟨v,rfl,hR,rfl⟩,⟨hv,hS,by simp[HV.men],fun id o h=>by simp[cZ]at h,Stay2.refl _ _,Moves.refl _ _⟩⟩
theorem bA9 {w:World}{O:Nat→Prop}: ∀{l:List UInt8} {xs:List Value},RepL w O (l.map u8) xs→xs=l.map fun b=> .int .u8 (b.toNat:Int)
 |[],xs,h=>by simpa[RepL]using h
 |b::l,xs,h=>by
  simp only[List.map_cons,RepL,u8,RepC]at h;obtain⟨c1,c2,rfl,rfl,h2⟩:=h;rw[bA9 h2];rfl
variable {x:Value}{l:List UInt8}{O:Nat→Prop}{ρ:Env}{w:World}
theorem tO (h:RepV w ρ O (.c (.slc (l.map u8))) x):(Extern.Bytes.bytesOf x).run P w= .ok ⟨l.toArray⟩ w:=by
 have h1:=h.single rfl;simp only[RepC,List.cons.injEq,and_true]at h1;obtain⟨a,cap,xs,sz,rfl,h2,_,h4,h5,h6⟩:=h1;have hx:=bA9 h2;cases a with
 |none=>
  have:=h5 rfl;have hl:l=[]:=by
   have:l.length=0:=by simp only[List.length_map]at h4;omega
   exact List.eq_nil_of_length_eq_zero this
  subst hl;simp only[Extern.Bytes.bytesOf,Sem.run_pure];rfl
 |some ad=>
  have hr:=(h6 ad rfl).1;have:=Go.Lib.run_loadBytesX (P:=P) w (l.map fun b=>(b.toNat:Int)) ad .empty (fun j y hj=>hr j _ (by
   rw[hx];rw[List.getElem?_map]at hj⊢;cases hb:l[j]? with
   |none=>rw[hb]at hj;cases hj
   |some b=>rw[hb]at hj;cases hj;rfl))
  simp only[List.length_map]at this;simp only[Extern.Bytes.bytesOf,List.length_map,this];congr 2;simp only[Go.Lib.bytesOf,List.map_map];have e:l.map ((fun n:Int=>n.toNat.toUInt8)∘fun b:UInt8=>(b.toNat:Int))=l:=by
   conv=>rhs;rw[←List.map_id l]
   exact List.map_congr_left fun b _=>by simp
  rw[e];simp
def jZ (a b:List UInt8):Int:=if slt a b then-1 else if a==b then 0 else 1
def bR5 (a b:List UInt8):Int:=
 match(List.range (min a.length b.length)).find? fun i=>a.getD i 0 !=b.getD i 0 with
 |some i=>if a.getD i 0<b.getD i 0 then-1 else 1
 |none=>if a.length<b.length then-1 else if a.length>b.length then 1 else 0
theorem xL {p:Nat→Bool}(n:Nat):(List.range (n+1)).find? p=if p 0 then some 0 else((List.range n).find? fun i=>p (i+1)).map (· +1):=by
 rw[List.range_succ_eq_map,List.find?_cons,List.find?_map];split<;>simp_all[Function.comp];rfl
theorem bB0 : ∀a b:List UInt8,bR5 a b=jZ a b
 |[],[]=>rfl
 |[],b::l=>by simp[bR5,jZ,slt,Op.bytesLess]
 |a::l,[]=>by simp[bR5,jZ,slt,Op.bytesLess]
 |a::l,b::m=>by
  have ih:=bB0 l m;have hmin:min (a::l).length (b::m).length=min l.length m.length+1:=by simp only[List.length_cons];omega
  unfold bR5 at ih⊢;rw[hmin,xL];by_cases hab:a=b
  · subst hab;simp only[List.getD_cons_zero,bne_self_eq_false,Bool.false_eq_true,if_false,List.getD_cons_succ];grind[jZ,slt,Op.bytesLess,List.range,min]
  simp_all[List.getD_cons_zero,if_true,jZ,slt,Op.bytesLess]
variable {y:Value}
theorem cC2 {a b:List UInt8}(ha:RepV w ρ O (.c (.slc (a.map u8))) x)(hb:RepV w ρ O (.c (.slc (b.map u8))) y):
  (Extern.BytealgCompare.compare #[x,y]).run P w= .ok (.int .i64 (jZ a b)) w:=by
 change (Sem.run P (do pure (goInt (Extern.BytealgCompare.cmp (←Extern.Bytes.bytesOf x) (←Extern.Bytes.bytesOf y)))) w)=_;simp only[Sem.run_bind,tO ha,tO hb,Result.andThen_ok,Sem.run_pure,goInt];rw[←bB0];grind[ByteArray.size,Go.Lib.get!_eq,Extern.BytealgCompare.cmp,bR5,List.find?]
def gB (l:List UInt8)(c:UInt8):Int:=match l.findIdx? (· ==c)with|some i=>(i:Int)|none=> -1
theorem aO3 {α:Type}{p:α→Bool}(d:α): ∀(l:List α),(List.range l.length).find? (fun i=>p (l.getD i d))=l.findIdx? p
 |[]=>rfl
 |a::l=>by
  rw[List.length_cons,xL,List.findIdx?_cons];simp only[List.getD_cons_zero,List.getD_cons_succ];rw[aO3 d l]
variable {c:UInt8}
theorem bB1 (hx:(Extern.Bytes.bytesOf x).run P w= .ok ⟨l.toArray⟩ w)(hy:(Extern.Bytes.asByte y).run P w= .ok c w):
  (Extern.BytealgIndexByte.indexByte #[x,y]).run P w= .ok (.int .i64 (gB l c)) w:=by
 change (Sem.run P (do
  let b←Extern.Bytes.bytesOf x
  let c←Extern.Bytes.asByte y
  match(List.range b.size).find? fun i=>b[i]! ==c with
  |some i=>pure (goInt i)
  |none=>pure (goInt (-1))) w)=_
 simp only[Sem.run_bind,hx,hy,Result.andThen_ok];have h1:(⟨l.toArray⟩:ByteArray).size=l.length:=by simp[ByteArray.size]
 have h2: ∀i:Nat,(⟨l.toArray⟩:ByteArray)[i]! =l.getD i 0:=fun i=>by exact Go.Lib.get!_eq l i
 simp only[h1,h2,aO3 (p:=fun b=>b==c)];unfold gB;cases l.findIdx? fun b=>b==c<;>rfl
theorem xM (h:RepV w ρ O (.c (u8 c)) y):(Extern.Bytes.asByte y).run P w= .ok c w:=by
 have h1:=h.single rfl;simp_all[u8,RepC,List.cons.injEq,and_true,Extern.Bytes.asByte]
theorem cL1 (hf:P.funcs[f]? =some fn)(hname:(fn.name== "runtime.NumGoroutine")=false)(hb:fn.body.isNone=true)(hn:Extern.findNext fn=none)
  (he:Extern.find fn=some Extern.BytealgIndexByte.indexByte) (l:List UInt8) (c:UInt8):cF P f [.slc (l.map u8),u8 c] (fun v=>v= .int .i64 (gB l c)):=
 aB2 hf hname hb hn he fun w ρ O xs h=>by
  simp only[List.map_cons,List.map_nil,bM,RepHV]at h;obtain⟨x,l1,rfl,hx,y,l2,rfl,hy,rfl⟩:=h;exact⟨_,_,rfl,eI _ _ _ _ _,bB1 (tO hx) (xM hy)⟩
theorem cC3 (hf:P.funcs[f]? =some fn)(hname:(fn.name== "runtime.NumGoroutine")=false)(hb:fn.body.isNone=true)(hn:Extern.findNext fn=none)
  (he:Extern.find fn=some Extern.BytealgIndexByte.indexByte) (l:List UInt8) (c:UInt8):cF P f [.str l,u8 c] (fun v=>v= .int .i64 (gB l c)):=
 aB2 hf hname hb hn he fun w ρ O xs h=>by
  simp only[List.map_cons,List.map_nil,bM,RepHV]at h;obtain⟨x,l1,rfl,hx,y,l2,rfl,hy,rfl⟩:=h;have hx':(Extern.Bytes.bytesOf x).run P w= .ok ⟨l.toArray⟩ w:=by
   have h1:=hx.single rfl;simp only[RepC,List.cons.injEq,and_true]at h1;subst h1;rfl
  exact⟨_,_,rfl,eI _ _ _ _ _,bB1 hx' (xM hy)⟩
end Go.Hl
namespace Go.Pl
open Go Go.Hl
def bE (c:UInt8):List UInt8→List (List UInt8)
 |[]=>[[]]
 |b::l=>if b=c then []::bE c l else match bE c l with
  |x::xs=>(b::x)::xs
  |[]=>[[b]]
theorem gV (c:UInt8)(l:List UInt8):bE c l≠[]:=by
 cases l with
 |nil=>simp[bE]
 |cons b l=>grind[bE]
theorem qE (c:UInt8): ∀l:List UInt8,match l.findIdx? (· ==c)with
  |some i=>i<l.length∧bE c l=l.take i::bE c (l.drop (i+1))
  |none=>bE c l=[l]
 |[]=>rfl
 |b::l=>by
  have ih:=qE c l;rw[List.findIdx?_cons];by_cases h:b=c
  · grind[bE]
  ·
   have hb:(b==c)=false:=by simpa using h
   simp only[hb,Bool.false_eq_true,if_false];cases hf:l.findIdx? (· ==c)with
   |none=>
    simp_all[Option.map_none,bE,if_neg]
   |some i=>
    simp_all[Option.map_some,bE,if_neg,List.length_cons,List.take_succ_cons,List.drop_succ_cons,trivial]
variable {c:UInt8}{l:List UInt8}
theorem rT (h:gB l c<0):bE c l=[l]:=by
 have:=qE c l;grind[gB]
theorem iW (h: ¬gB l c<0): ∃i:Nat,gB l c=(i:Int)∧i<l.length∧bE c l=l.take i::bE c (l.drop (i+1)):=by
 have:=qE c l;unfold gB at h⊢;grind
theorem lC (c:UInt8): ∀l:List UInt8,(bE c l).length≤l.length+1
 |[]=>by simp[bE]
 |b::l=>by
  have ih:=lC c l;grind[bE,List.length_cons]
theorem xN (c:UInt8): ∀(l:List UInt8),∀p∈bE c l,p.length≤l.length
 |[],p,hp=>by grind[bE]
 |b::l,p,hp=>by
  have ih:=xN c l;unfold bE at hp;split at hp
  · grind
  ·
   split at hp
   · grind
   grind
def valH (c:UInt8):Nat:=if 48≤c.toNat∧c.toNat≤57 then c.toNat-48 else if 65≤c.toNat∧c.toNat≤70 then c.toNat-55 else 16
def byteH (x y:UInt8):UInt8:=UInt8.ofNat (16*valH x+valH y)
def okH (x y:UInt8):Bool:=decide (valH x<16)&&decide (valH y<16)&&!eB (byteH x y)
def unB :List UInt8→Option aL
 |[]=>some []
 |c::l=>if eB c then(unB l).map (c::·)else if c=37 then match l with
   |x::y::l'=>if okH x y then(unB l').map (byteH x y::·)else none
   |_=>none
  else none
def unW (s:aL):Option aL:=if s=[126]then some []else if s=[]then none else unB s
theorem aB3 {c:UInt8}{l:aL}(h:eB c=true):unB (c::l)=(unB l).map (c::·):=by
 rw[unB.eq_def];grind
theorem cC4 {c:UInt8}{l:aL}(h:eB c=false)(h1:c≠37∨l.length<2):unB (c::l)=none:=by
 rw[unB.eq_def];grind
theorem bB2 {x y:UInt8}{l:aL}(h:okH x y=true):unB (37::x::y::l)=(unB l).map (byteH x y::·):=by
 rw[unB.eq_def];simp_all[eB,Bool.false_eq_true,if_false,if_true]
theorem aO4 {x y:UInt8}{l:aL}(h:okH x y=false):unB (37::x::y::l)=none:=by simp_all[unB.eq_def,eB,Bool.false_eq_true,if_false,if_true]
def cC5 :List UInt8:=[48,49,50,51,52,53,54,55,56,57,65,66,67,68,69,70]
set_option maxRecDepth 20000 in
theorem rU (c:UInt8):gB cC5 c=if valH c<16 then(valH c:Int)else-1:=by
 have h: ∀n:Fin 256,gB cC5 (UInt8.ofNat n.1)=if valH (UInt8.ofNat n.1)<16 then(valH (UInt8.ofNat n.1):Int)else-1:=by decide
 have:=h ⟨c.toNat,c.toNat_lt⟩;simp_all
theorem bH5 {x y:UInt8}(hx:valH x<16)(hy:valH y<16):(byteH x y).toNat=16*valH x+valH y:=by grind[byteH,UInt8.toNat_ofNat']
def UnSt (s:aL)(i:Nat)(out:aL):Prop:=i≤s.length∧unB s=(unB (s.drop i)).map (out++·)∧(out=[]→i=0)∧out.length≤i
section
variable {s:aL}{i:Nat}{out:aL}
theorem UnSt.init (s:aL):UnSt s 0 []:=⟨Nat.zero_le _,by simp,fun _=>rfl,Nat.le_refl _⟩
theorem UnSt.plain (h:UnSt s i out)(hi:i<s.length)(hp:eB s[i]=true):UnSt s (i+1) (out++[s[i]]):=by
 obtain⟨_,h2,_,h4⟩:=h;refine⟨hi,?_,by simp,by grind⟩;rw[h2,List.drop_eq_getElem_cons hi,aB3 hp,Option.map_map];congr 1;grind
theorem UnSt.bad1 (h:UnSt s i out)(hi:i<s.length)(hp:eB s[i]=false)(h1:s[i]≠37∨s.length≤i+2):unB s=none:=by
 rw[h.2.1,List.drop_eq_getElem_cons hi,cC4 hp (h1.imp id fun h=>by grind)];rfl
theorem cI7 {s:aL}{i:Nat}(hi:i+2<s.length):s.drop i=s[i]::s[i+1]::s[i+2]::s.drop (i+3):=by
 rw[List.drop_eq_getElem_cons (show i<s.length by omega),List.drop_eq_getElem_cons (show i+1<s.length by omega),List.drop_eq_getElem_cons hi]
theorem UnSt.esc (h:UnSt s i out)(hi:i+2<s.length)(h37:s[i]=37)(hok:okH s[i+1] s[i+2]=true):UnSt s (i+3) (out++[byteH s[i+1] s[i+2]]):=by
 obtain⟨_,h2,_,h4⟩:=h;refine⟨hi,?_,by simp,by simp;omega⟩;rw[h2,cI7 hi,h37,bB2 hok,Option.map_map];congr 1;funext l;simp
theorem UnSt.bad2 (h:UnSt s i out)(hi:i+2<s.length)(h37:s[i]=37)(hok:okH s[i+1] s[i+2]=false):unB s=none:=by
 rw[h.2.1,cI7 hi,h37,aO4 hok];rfl
theorem nW (h:unB s=none)(h1:s≠[126]):unW s=none:=by simp_all[unW,if_neg]
theorem UnSt.fin (h:UnSt s i out)(hi:i=s.length)(h1:s≠[126]):unW s=if out=[]then none else some out:=by
 subst hi;obtain⟨_,h2,h3,h4⟩:=h;rw[List.drop_length]at h2;unfold unW;rw[if_neg h1];by_cases ho:out=[]
 · grind
 ·
  have hs:s≠[]:=by
   rintro rfl;simp only[List.length_nil,Nat.le_zero]at h4;exact ho (List.eq_nil_of_length_eq_zero h4)
  simp_all[if_neg,unB]
end
def CutR (l:List UInt8)(c:UInt8)(li re:List UInt8)(fd:Bool):Prop:=
 (fd=false∧gB l c<0∧li=l∧re=[])∨(fd=true∧ ∃i:Nat,gB l c=(i:Int)∧i<l.length∧li=l.take i∧re=l.drop (i+1))
def unL (r:aL):Option (List aL):=(bE 32 r).mapM unW
def unR (r:aL):Option (List aL):=match unL r with|some ws=>if okL ws then some ws else none|none=>none
def iO (b:aL):Option (List (List aL)):=
 if b=[]then some []else if(bE 10 b).getLast (gV 10 b)=[]then(bE 10 b).dropLast.mapM unR else none
variable {li re:aL}
theorem aO5 {l:aL}(hc:CutR l 10 li re true):iO l=(unR li).bind fun ws=>(iO re).map (ws::·):=by
 rcases hc with⟨h,_⟩|⟨_,i,h1,h2,rfl,rfl⟩
 · cases h
 ·
  obtain⟨i',h3,_,hsp⟩:=iW (l:=l) (c:=10) (by omega);have:i'=i:=by omega
  subst this;have hne:l≠[]:=by rintro rfl;simp at h2
  have hd:iO l=if(bE 10 (l.drop (i'+1))).getLast (gV 10 _)=[]then(l.take i'::(bE 10 (l.drop (i'+1))).dropLast).mapM unR else none:=by
   unfold iO;rw[if_neg hne];simp only[hsp];grind[List.getLast_cons,gV,List.dropLast_cons_of_ne_nil]
  rw[hd];have he:iO (l.drop (i'+1))=if(bE 10 (l.drop (i'+1))).getLast (gV 10 _)=[]then(bE 10 (l.drop (i'+1))).dropLast.mapM unR else none:=by
   unfold iO;split
   · rename_i h;rw[h];rfl
   · rfl
  rw[he];split
  ·
   rw[List.mapM_cons];cases unR (l.take i')with
   |none=>rfl
   |some ws=>cases(bE 10 (l.drop (i'+1))).dropLast.mapM unR<;>rfl
  simp_all
theorem xO {l:aL}(hc:CutR l 10 li re false)(hne:l≠[]):iO l=none:=by
 rcases hc with⟨_,h,_⟩|⟨h,_⟩
 all_goals simp_all[iO,if_neg,rT,List.getLast_singleton]
variable {fd:Bool}
theorem bR6 {l:aL}(hc:CutR l 10 li re fd)(hne:l≠[])(h:unR li=none):iO l=none:=by
 cases fd with
 |false=>exact xO hc hne
 |true=>rw[aO5 hc,h];rfl
theorem CutR.lt {l:aL}(hc:CutR l c li re fd)(hne:l≠[]):re.length<l.length∧li.length≤l.length:=by
 have:0<l.length:=List.length_pos_iff.2 hne;rcases hc with⟨_,_,rfl,rfl⟩|⟨_,i,_,h,rfl,rfl⟩
 all_goals grind
def wsT (r:aL)(i:Nat):List aL:=((bE 32 r).take i).map fun p=>(unW p).getD []
def bR7 (r:aL)(i:Nat):Prop:= ∀p∈(bE 32 r).take i,(unW p).isSome=true
variable {i:Nat}{r:aL}
theorem bR8 (h:i<(bE 32 r).length):wsT r (i+1)=wsT r i++[(unW (bE 32 r)[i]).getD []]:=by
 simp only[wsT,List.take_succ_eq_append_getElem h,List.map_append,List.map_cons,List.map_nil]
theorem xP (h:i≤(bE 32 r).length):(wsT r i).length=i:=by grind[wsT,List.length_map,List.length_take]
theorem bH6 (h:i<(bE 32 r).length)(h1:bR7 r i)(h2:(unW (bE 32 r)[i]).isSome=true):bR7 r (i+1):=by
 intro p hp;rw[List.take_succ_eq_append_getElem h,List.mem_append,List.mem_singleton]at hp;rcases hp with hp|rfl
 · exact h1 p hp
 · exact h2
theorem aB4 {α β:Type}{f:α→Option β}: ∀{l:List α} {x:α},x∈l→f x=none→l.mapM f=none
 |a::l,x,hx,h=>by
  rw[List.mapM_cons];rcases List.mem_cons.1 hx with rfl|hx
  · grind
  · rw[aB4 hx h];simp_all
theorem aO6 {α β:Type}{f:α→Option β}(d:β): ∀{l:List α},(∀x∈l,(f x).isSome=true)→l.mapM f=some (l.map fun x=>(f x).getD d)
 |[],_=>rfl
 |a::l,h=>by
  rw[List.mapM_cons,aO6 d fun x hx=>h x (List.mem_cons_of_mem _ hx)];grind[Option.isSome_iff_exists,List.mem_cons_self]
theorem bR9 (h:i<(bE 32 r).length)(h2:(unW (bE 32 r)[i]).isSome=false):unR r=none:=by
 unfold unR unL;rw[aB4 (List.getElem_mem h) (by simpa using h2)]
theorem cC6 (h:bR7 r (bE 32 r).length):unR r=if okL (wsT r (bE 32 r).length)then some (wsT r (bE 32 r).length)else none:=by
 unfold bR7 at h;rw[List.take_length]at h;unfold unR unL;rw[aO6 [] h];simp only[wsT,List.take_length]
def DecSt (b rest:aL)(ls:List (List aL)):Prop:=iO b=(iO rest).map (ls++·)∧rest.length≤b.length∧ls.length+rest.length≤b.length
theorem DecSt.init (b:aL):DecSt b b []:=⟨by simp,Nat.le_refl _,by simp⟩
variable {ls:List (List aL)}{rest:aL}
theorem DecSt.bad {b:aL}(h:DecSt b rest ls)(hc:CutR rest 10 li re fd)(hne:rest≠[])(hb:unR li=none):iO b=none:=by
 rw[h.1,bR6 hc hne hb];rfl
theorem DecSt.bad0 {b:aL}(h:DecSt b rest ls)(hc:CutR rest 10 li re false)(hne:rest≠[]):iO b=none:=by
 rw[h.1,xO hc hne];rfl
theorem DecSt.next {b:aL}(h:DecSt b rest ls)(hc:CutR rest 10 li re true)(hne:rest≠[]){ws:List aL}(hb:unR li=some ws):DecSt b re (ls++[ws]):=by
 have hl:=hc.lt hne;obtain⟨h1,h2,h3⟩:=h;refine⟨?_,by omega,by grind⟩;rw[h1,aO5 hc,hb];cases iO re with
 |none=>rfl
 |some l=>simp
theorem DecSt.fin {b:aL}(h:DecSt b [] ls):iO b=some ls:=by
 rw[h.1];simp[iO]
def kM (b:aL):Int:=if 262144<b.length then 3 else match iO b with|some ls=>if 1000<ls.length then 2 else 0|none=>2
def mL (b:aL):List (List aL):=if kM b=0 then(iO b).getD []else []
structure Pt where
 k:Nat
 c:UInt8
def Pt.cv (x:Pt):CV:= .agg [.int .i64 x.k,.int .u8 x.c.toNat]
theorem Pt.cells (x:Pt):x.cv.cells=2:=by simp[Pt.cv,CV.cells,CV.cellsL]
theorem Pt.denil (x:Pt):x.cv.denil=x.cv:=by simp only[Pt.cv,CV.denil,CV.denilL]
theorem Pt.isAgg (x:Pt):x.cv.isAgg=true:=rfl
theorem Pt.getAll (x:Pt):CV.getAt 0 2 true x.cv=some x.cv:=by
 have:=Pt.cells x;simp_all[Pt.cv,CV.cells,CV.getAt,and_self,if_true]
theorem Pt.setAll (x:Pt)(y:HV):CV.setAt 0 2 y x.cv=some y:=by
 have:=Pt.cells x;simp_all[Pt.cv,CV.cells,CV.setAt,and_self,if_true]
theorem Pt.fold (k:Nat)(c:UInt8):CV.agg [.int .i64 k,.int .u8 c.toNat]=Pt.cv ⟨k,c⟩:=rfl
theorem Pt.get_k (x:Pt):CV.getAt 0 1 false x.cv=some (.int .i64 x.k):=by simp[Pt.cv,CV.getAt,CV.getAtL,CV.cells,CV.cellsL]
theorem Pt.get_c (x:Pt):CV.getAt 1 1 false x.cv=some (.int .u8 x.c.toNat):=by simp[Pt.cv,CV.getAt,CV.getAtL,CV.cells,CV.cellsL]
def patP :aL→Option (List Pt)
 |[]=>some []
 |c::l=>if c=0 then none
  else if c=92 then match l with
   |[]=>none
   |d::r=>if d=0 then none else(patP r).map (⟨0,d⟩::·)
  else if c=63 then(patP l).map (⟨1,0⟩::·)
  else if c=42 then match l with
   |[]=>some [⟨2,0⟩]
   |d::r=>if d=42 then(patP r).map (⟨3,0⟩::·)else(patP (d::r)).map (⟨2,0⟩::·)
  else(patP l).map (⟨0,c⟩::·)
def aW0 (p:aL):Option (List Pt):=if p.length<1∨200<p.length then none else patP p
def PatSt (p:aL)(i:Nat)(out:List Pt):Prop:=i≤p.length∧patP p=(patP (p.drop i)).map (out++·)∧out.length≤i∧ ∀x∈out,x.k≤3
theorem PatSt.init (p:aL):PatSt p 0 []:=⟨by omega,by simp,by simp,by simp⟩
section
variable {p:aL}{i:Nat}{out:List Pt}
theorem PatSt.fin (h:PatSt p i out)(hi:i=p.length):patP p=some out:=by
 rw[h.2.1,hi,List.drop_length,patP.eq_def];simp
theorem PatSt.step (h:PatSt p i out){k:Nat}{x:Pt}(hk:i+k≤p.length)(h0:1≤k)(hx:x.k≤3)(he:patP (p.drop i)=(patP (p.drop (i+k))).map (x::·)):PatSt p (i+k) (out++[x]):=by
 refine⟨hk,?_,by have:=h.2.2.1;grind,fun y hy=>?_⟩
 · rw[h.2.1,he,Option.map_map];congr 1;grind
 ·
  rcases List.mem_append.1 hy with hy|hy
  · exact h.2.2.2 y hy
  grind
theorem PatSt.bad (h:PatSt p i out)(he:patP (p.drop i)=none):patP p=none:=by rw[h.2.1,he];rfl
end
theorem aW1 (h:(bE c l).length=1):bE c l=[l]:=by
 by_cases hn:gB l c<0;all_goals grind[rT,iW,List.length_pos_iff,gV,List.length_cons]
def SplSt (l:aL)(c:UInt8)(i:Nat)(rest:aL)(a:List aL):Prop:=
 a.length=(bE c l).length∧a.take i=(bE c l).take i∧(bE c l).drop i=bE c rest∧i<(bE c l).length∧rest.length≤l.length
section
variable {l rest:aL}{c:UInt8}{i k:Nat}{a:List aL}
theorem SplSt.init (l:aL)(c:UInt8):SplSt l c 0 l (List.replicate (bE c l).length []):=
 ⟨by simp,by simp,rfl,List.length_pos_iff.2 (gV c l),Nat.le_refl _⟩
theorem SplSt.next (h:SplSt l c i rest a)(hk:gB rest c=(k:Int)):k<rest.length∧SplSt l c (i+1) (rest.drop (k+1)) (a.set i (rest.take k)):=by
 obtain⟨h1,h2,h3,h4,h5⟩:=h;obtain⟨k',e1,e2,e3⟩:=iW (l:=rest) (c:=c) (by omega);have:k'=k:=by omega
 subst this;rw[e3]at h3;have h6:=List.drop_eq_getElem_cons h4;rw[h6]at h3;have h7:=List.head_eq_of_cons_eq h3;have h8:=List.tail_eq_of_cons_eq h3;refine⟨e2,by grind,?_,h8,?_,by grind⟩
 · rw[List.take_succ_eq_append_getElem (by grind),List.take_succ_eq_append_getElem h4,List.getElem_set_self,List.take_set_of_le (Nat.le_refl _),h2,h7]
 grind[Nat.lt_or_ge,bE,List.drop_eq_nil_of_le,absurd,gV]
theorem SplSt.last (h:SplSt l c i rest a)(hk:gB rest c<0):i+1=(bE c l).length:=by
 obtain⟨h1,h2,h3,h4,h5⟩:=h;rw[rT hk]at h3;have:=congrArg List.length h3;grind
theorem SplSt.fin (h:SplSt l c i rest a)(hi:i+1=(bE c l).length):a.set i rest=bE c l:=by
 obtain⟨h1,h2,h3,h4,h5⟩:=h;have h6:(bE c rest).length=1:=by rw[←h3,List.length_drop];omega
 rw[aW1 h6]at h3;have e1:a.set i rest=(a.set i rest).take (i+1):=(List.take_of_length_le (by grind)).symm;rw[e1,List.take_succ_eq_append_getElem (by grind),List.getElem_set_self,List.take_set_of_le (Nat.le_refl _),h2];grind[List.take_append_drop,bE]
end
def qF (c:UInt8):Bool:=decide (48≤c.toNat)&&decide (c.toNat≤57)
def fA :aL→Nat→Option Nat
 |[],n=>some n
 |c::l,n=>if qF c then fA l (10*n+(c.toNat-48))else none
def jA (s:aL):Bool:=decide (s.length<1)||decide (13<s.length)||(decide (1<s.length)&&s.getD 0 0==48)
def dJ (s:aL):Option Int:=if jA s then none else match fA s 0 with|some n=>if 1099511627776<n then none else some (n:Int)|none=>none
def DgSt (s:aL)(i n:Nat):Prop:=i≤s.length∧fA s 0=fA (s.drop i) n∧n<10^i
theorem DgSt.init (s:aL):DgSt s 0 0:=⟨Nat.zero_le _,rfl,by omega⟩
variable {n:Nat}{s:aL}
theorem DgSt.next (h:DgSt s i n)(hi:i<s.length)(hd:qF s[i]=true):DgSt s (i+1) (10*n+(s[i].toNat-48)):=by
 obtain⟨h1,h2,h3⟩:=h;refine⟨hi,?_,?_⟩
 · rw[h2,List.drop_eq_getElem_cons hi,fA,if_pos hd]
 · simp only[qF,Bool.and_eq_true,decide_eq_true_eq]at hd;grind
theorem DgSt.bad (h:DgSt s i n)(hi:i<s.length)(hd:qF s[i]=false):fA s 0=none:=by
 rw[h.2.1,List.drop_eq_getElem_cons hi,fA,if_neg (by grind)]
theorem DgSt.fin (h:DgSt s i n)(hi:i=s.length):fA s 0=some n:=by
 rw[h.2.1,hi,List.drop_length];rfl
theorem DgSt.lt (h:DgSt s i n)(hs:s.length≤13):n<10000000000000:=by
 have:10^i≤10^13:=Nat.pow_le_pow_right (by omega) (Nat.le_trans h.1 hs);have:=h.2.2;omega
theorem xQ (h:jA s=true):dJ s=none:=by unfold dJ;grind
theorem aB5 (h:fA s 0=none):dJ s=none:=by grind[dJ]
theorem bS0 (h:fA s 0=some n)(h1:1099511627776<n):dJ s=none:=by simp_all[dJ,if_pos]
theorem bB3 {n:Nat}(h0:jA s=false)(h:fA s 0=some n)(h1: ¬1099511627776<n):dJ s=some (n:Int):=by simp_all[dJ,if_neg]
theorem bS1 (c:UInt8):qF c=(decide ((48:Int)≤(c.toNat:Int))&&decide ((c.toNat:Int)≤57)):=by
 unfold qF;grind
theorem iP {n:Int}(h:dJ s=some n):0≤n∧n≤1099511627776:=by grind[dJ]
theorem uT (c:UInt8): ∀m:aL,bE c (m++[c])=bE c m++[[]]
 |[]=>by simp[bE]
 |b::m=>by
  have ih:=uT c m;simp only[List.cons_append];rw[bE,bE];by_cases h:b=c
  · grind
  · rw[if_neg h,if_neg h,ih];grind[bE,absurd,gV]
def rV (c:UInt8):List aL→aL
 |[]=>[]
 |w::l=>w++l.flatMap fun v=>c::v
theorem uU {c:UInt8}: ∀{w:aL},(∀b∈w,b≠c)→bE c w=[w]
 |[],_=>rfl
 |b::w,h=>by
  rw[bE,if_neg (h b List.mem_cons_self),uU fun x hx=>h x (List.mem_cons_of_mem _ hx)]
theorem xR {c:UInt8}{r:aL}: ∀{w:aL},(∀b∈w,b≠c)→bE c (w++c::r)=w::bE c r
 |[],_=>by simp only[List.nil_append];rw[bE,if_pos rfl]
 |b::w,h=>by
  simp only[List.cons_append];rw[bE,if_neg (h b List.mem_cons_self),xR fun x hx=>h x (List.mem_cons_of_mem _ hx)]
theorem nX {c:UInt8}: ∀{l:List aL},l≠[]→(∀w∈l,∀b∈w,b≠c)→bE c (rV c l)=l
 |[],h,_=>absurd rfl h
 |[w],_,h=>by grind[rV,uU,List.mem_cons_self]
 |w::v::l,_,h=>by
  have ih:=nX (c:=c) (l:=v::l) (by simp) fun x hx=>h x (List.mem_cons_of_mem _ hx);grind[rV,xR,List.mem_cons_self]
set_option maxRecDepth 20000 in
theorem aB6 {n:Nat}(h:n<16):valH (qC n)=n:=by
 have key: ∀n:Fin 16,valH (qC n.1)=n.1:=by decide
 exact key ⟨n,h⟩
theorem aW2 (h:eB c=true):mY c=[c]:=by unfold mY;grind
theorem aB7 : ∀w:aL,unB (dC w)=some w
 |[]=>rfl
 |c::w=>by
  have ih:=aB7 w;have e:dC (c::w)=mY c++dC w:=by simp[dC]
  rw[e];by_cases hp:eB c=true
  · grind[aW2,aB3]
  ·
   have hp:eB c=false:=by simpa using hp
   have hlt:=c.toNat_lt;have h1:valH (qC (c.toNat/16))=c.toNat/16:=aB6 (by omega);have h2:valH (qC (c.toNat%16))=c.toNat%16:=aB6 (by omega);have hb:byteH (qC (c.toNat/16)) (qC (c.toNat%16))=c:=by
    unfold byteH;rw[h1,h2,Nat.div_add_mod];exact UInt8.ofNat_toNat
   have ho:okH (qC (c.toNat/16)) (qC (c.toNat%16))=true:=by
    simp only[okH,hb,hp,h1,h2,Bool.and_eq_true,decide_eq_true_eq,Bool.not_false,and_true];omega
   grind[mY,qC,bB2]
variable {b:UInt8}
theorem aB8 (h:b∈mY c):b≠10∧b≠32∧b≠126:=by
 unfold mY at h;split at h
 · rename_i hp;simp only[List.mem_singleton]at h;subst h;refine⟨?_,?_,?_⟩<;>(rintro rfl;revert hp;decide)
 ·
  have key: ∀n:Nat,qC n≠10∧qC n≠32∧qC n≠126:=by
   intro n;unfold qC;rcases Nat.lt_or_ge n 16 with hn|hn
   ·
    have: ∀n:Fin 16,([48,49,50,51,52,53,54,55,56,57,65,66,67,68,69,70]:List UInt8).getD n.1 0≠10∧([48,49,50,51,52,53,54,55,56,57,65,66,67,68,69,70]:List UInt8).getD n.1 0≠32∧([48,49,50,51,52,53,54,55,56,57,65,66,67,68,69,70]:List UInt8).getD n.1 0≠126:=by decide
    exact this ⟨n,hn⟩
   · simp_all
  grind
variable {w:aL}
theorem tP (h:b∈mK w):b≠10∧b≠32:=by
 unfold mK at h;split at h
 · grind
 · obtain⟨c,_,hc⟩:=List.mem_flatMap.1 h;grind[aB8]
theorem bS2 (w:aL):unW (mK w)=some w:=by
 unfold mK;split
 · rename_i h;subst h;rfl
 ·
  rename_i h;have hne:dC w≠[]:=by
   intro he;have:=aO0 w;rw[he]at this;exact h (List.eq_nil_of_length_eq_zero (by grind))
  have h126:dC w≠[126]:=by
   intro he;have hm:(126:UInt8)∈dC w:=by rw[he];simp
   obtain⟨c,_,hc⟩:=List.mem_flatMap.1 hm;exact(aB8 hc).2.2 rfl
  simp_all[unW,if_neg,aB7]
theorem bH7 (l:List aL):jJ l=rV 32 (l.map mK):=by
 cases l with
 |nil=>rfl
 |cons w l=>simp[jJ,rV,List.flatMap_map]
theorem aB9 : ∀l:List aL,(l.map mK).mapM unW=some l
 |[]=>rfl
 |w::l=>by rw[List.map_cons,List.mapM_cons,bS2,aB9 l];rfl
theorem bS3 {l:List aL}(h:l≠[]):unL (jJ l)=some l:=by
 unfold unL;rw[bH7,nX (by simp_all) (by
  intro w hw b hb;obtain⟨v,_,rfl⟩:=List.mem_map.1 hw;exact(tP hb).2),aB9]
theorem bH8 {l:List aL}(h:b∈jJ l):b≠10:=by
 cases l with
 |nil=>simp at h
 |cons w l=>
  simp only[jJ,List.mem_append,List.mem_flatMap]at h;rcases h with h|⟨v,_,h⟩
  · exact(tP h).1
  · rcases List.mem_cons.1 h with rfl|h;all_goals grind[tP]
theorem bH9 (h:ls≠[]):jK ls=rV 10 (ls.map jJ)++[10]:=by
 cases ls with
 |nil=>grind
 |cons l ls=>
  have key: ∀(l:List aL) (ls:List (List aL)),jK (l::ls)=rV 10 ((l::ls).map jJ)++[10]:=by
   intro l ls;induction ls generalizing l with
   |nil=>simp[jK,rV,aO1]
   |cons k ls ih=>
    grind[jK,aO1,rV]
  grind
theorem bI0 (m:aL):iO (m++[10])=(bE 10 m).mapM unR:=by simp_all[uT,iO,if_neg,if_pos,List.dropLast_concat]
theorem bI1 (h: ∀l∈ls,okL l=true):iO (jK ls)=some ls:=by
 by_cases hne:ls=[]
 · subst hne;simp[iO]
 ·
  rw[bH9 hne,bI0,nX (by simpa using hne) (by
   intro w hw b hb;obtain⟨l,_,rfl⟩:=List.mem_map.1 hw;exact bH8 hb)]
  clear hne;induction ls with
  |nil=>rfl
  |cons l ls ih=>
   have hl:=h l List.mem_cons_self;have hr:unR (jJ l)=some l:=by
    unfold unR;rw[bS3 ((kR l).1 hl).1];simp only[hl,if_true]
   rw[List.map_cons,List.mapM_cons,hr,ih fun x hx=>h x (List.mem_cons_of_mem _ hx)];rfl
theorem qG : ∀(l:List aL) (a:List aL),Asc a→Asc (l.foldl rF a)∧ ∀w,w∈l.foldl rF a↔w∈a∨w∈l
 |[],a,h=>⟨h,fun w=>by simp⟩
 |x::l,a,h=>by
  obtain⟨h1,h2⟩:=qG l (rF a x) (bP1 h x);refine⟨h1,fun w=>?_⟩;rw[List.foldl_cons,h2,bP0,List.mem_cons];constructor
  ·
   rintro((h|h)|h)
   · exact .inl h
   · exact .inr (.inl h)
   · exact .inr (.inr h)
  ·
   rintro(h|h|h)
   · exact .inl (.inl h)
   · exact .inl (.inr h)
   · exact .inr h
theorem bS4 (l:List aL):Asc (bF9 l):=(qG l [] List.Pairwise.nil).1
theorem bS5 {l:List aL}:w∈bF9 l↔w∈l:=by
 have:=(qG l [] List.Pairwise.nil).2 w;simpa[bF9]using this
def cK :List aL→List aL
 |a::b::l=>if a==b then cK (b::l)else a::cK (b::l)
 |l=>l
theorem tQ : ∀{l:List aL} {w:aL},w∈cK l↔w∈l
 |[],w=>by simp[cK]
 |[a],w=>by simp[cK]
 |a::b::l,w=>by
  have ih:=tQ (l:=b::l) (w:=w);simp only[cK];split
  ·
   rename_i h;have:a=b:=by simpa using h
   subst this;rw[ih];simp
  · rw[List.mem_cons,ih,List.mem_cons (b:=a)]
theorem aC0 : ∀{l:List aL},l.Pairwise (· ≤·)→Asc (cK l)
 |[],_=>List.Pairwise.nil
 |[a],_=>by simp[cK,Asc]
 |a::b::l,h=>by
  obtain⟨h1,h2⟩:=List.pairwise_cons.1 h;have ih:=aC0 h2;simp only[cK];split
  · exact ih
  ·
   rename_i hne;refine List.pairwise_cons.2 ⟨fun w hw=>?_,ih⟩;rw[tQ]at hw;have hab:a≤b:=h1 b (by simp);have hne':a≠b:=by simpa using hne
   have hlt:=nQ hab hne';rcases List.mem_cons.1 hw with rfl|hw
   · exact hlt
   ·
    have hbw:b≤w:=(List.pairwise_cons.1 h2).1 w hw;rcases Classical.em (b=w)with rfl|hne2
    · exact hlt
    · exact List.lt_trans hlt (nQ hbw hne2)
theorem aW3 {l s:List aL}(hs:s.Pairwise (· ≤·))(hp: ∀w,w∈s↔w∈l):cK s=bF9 l:=
 cB0 (aC0 hs) (bS4 l) fun w=>by rw[tQ,bS5,hp]
section
variable {r:Rt}{role:aL}{a b:List Dig}{t:Int}
end
end Go.Pl
