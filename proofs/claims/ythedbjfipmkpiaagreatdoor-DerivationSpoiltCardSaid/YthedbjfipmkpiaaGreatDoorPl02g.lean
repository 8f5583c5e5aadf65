/- Pieces of a string (strings.Split), in plain Lean. By an AI agent. -/
import Derived.Laws.Externs
import Derived.Lib.BytesEntry
import Derived.Test.YthedbjfipmkpiaaGreatDoorHlTlaw
import Derived.Test.YthedbjfipmkpiaaGreatDoorHlIt
set_option linter.unusedSimpArgs false
set_option linter.unusedVariables false
set_option linter.defProp false
namespace Go.Proofs.YthedbjfipmkpiaaGreatDoor
open Go Go.Hl Go.Pl
def rI :=(A2 (A2 (A2 @rpost_exit (A2 @rpost_normal @rpost_ret)) (A2 @hscope_exit (A2 @hscope_normal @hscope_ret))) (A2 (A2 @ithen_normal (A2 @ithen_exit @ithen_ret)) (A2 @iblk_normal (A2 @iblk_exit @iblk_ret))))
section
variable {n k nx i:Nat}{ops:Array Oper}{o:Oper}{g:Option (Nat×Bool)}{fr fr':Fr}{ob ob':Ob}
theorem T0 {a b:Prop}(h:b)(e:b→a:=by intro h;simp only[↓sP,sA,tyS,simprocAttr];(repeat refine AI ?_);exact h):a:=e h
theorem T2 {a b:Prop}(h:b)(e:b→a:=by intro h;simp only[sE,↓reduceIte,simprocAttr];(repeat refine AI ?_);exact h):a:=e h
theorem AX {a b:Prop}(h:b)(e:b→a:=by intro h;(repeat refine AI ?_);exact h):a:=e h
theorem fF {l:List (Nat×HV)}{h:List (Nat×HO)}{nx2:Nat}(J:k≤nx2:=by omega)(U:sD nx2 fr l:=by simp)
    (I:jQ nx2 ob h:=by simp):Fits k fr ob (fin l) (fob h) nx2:=bA J U I
theorem fG {l:List (Nat×HV)}{h:List (Nat×HO)}{nx2:Nat}(I:sD nx2 fr l∧jQ nx2 ob h)(J:k≤nx2:=by omega):Fits k fr ob (fin l) (fob h) nx2:=bA J I.1 I.2
theorem Rg {id:Nat}{b:Prop}{Q:eI}(h:b)(I:gQ n ops=true:=by kernel_rfl)
    (e:b→hlex Tryz.prog ops nx (fun fr' ob'=>Q .normal fr' ob' (nx+4*ops.size)) (List.range ops.size) fr ob:=by intro h;simp only[sR,simprocAttr];exact h):Hw Tryz.prog n k (.region id ops false) Q fr ob nx:=aM I (e h)
theorem cW (i:Nat)(h:(i:Int)<9223372036854775807:=by omega):IntKind.i64.wrap ((i:Int)+1)=(i:Int)+1:=B0 _ ⟨by omega,by omega⟩
theorem R0 {id I:Nat}{J:Code}{Q:eI}(h:Hw Tryz.prog n k J Q fr' ob' I)(hd:gQ n ops=true:=by kernel_rfl)
    (e: ∀K:Fr→Ob→Nat→Prop,K fr' ob' I→hlex Tryz.prog ops nx (fun fr' ob'=>hthen K Q .normal fr' ob' (nx+4*ops.size)) (List.range ops.size) fr ob:=by intro K h;simp only[↓sP,sA,tyS,simprocAttr];(repeat refine AI ?_);exact h):
    Hw Tryz.prog n k (.seq (.region id ops false) J) Q fr ob nx:=aC fun K U=>aM hd (e K (U _ _ _ h))
section
variable {Q:Fr→Ob→Prop}
theorem S0 {l:List Nat}(h:hlex Tryz.prog ops nx Q l fr' ob')(J:ops[i]? =some o:=by exact rfl)(U:gd ops o=some g:=by exact rfl)
    (e: ∀K:Fr→Ob→Prop,K fr' ob'→hop1 Tryz.prog (nx+4*i) [] g o.op o.dst K fr ob:=by intro K h;simp only[sH,↓sP,sA,tyS,simprocAttr];(repeat refine AI ?_);exact h):hlex Tryz.prog ops nx Q (i::l) fr ob:=
  aX J U fun K I=>e K (I _ _ h)
theorem SG0 {l:List Nat}(h:hlexG Tryz.prog ops nx Q l fr' ob')(J:ops[i]? =some o:=by exact rfl)(U:gd ops o=some g:=by exact rfl)
    (e: ∀K:Fr→Ob→Prop,K fr' ob'→hop1 Tryz.prog (nx+4*i) [] g o.op o.dst K fr ob:=by intro K h;simp only[sH,↓sP,sA,tyS,simprocAttr];(repeat refine AI ?_);exact h):hlexG Tryz.prog ops nx Q (i::l) fr ob:=
  cE J U fun K I=>e K (I _ _ h)
variable {cr rd:List Nat}{l:pX}{C:lT}
theorem W0 (h:hwalk2 Tryz.prog ops nx Q l (if isEff o.op=true then C else(i,if hgd g fr=some true then touch o.op (ev fr)else [])::C) fr' ob')(U:ops[i]? =some o:=by exact rfl)(I:gd ops o=some g:=by exact rfl)
    (e: ∀K:Fr→Ob→Prop,K fr' ob'→hop1 Tryz.prog (nx+4*i) (cr.flatMap (ids4 nx)++rd.flatMap (getF C)) g o.op o.dst K fr ob:=by intro K h;simp only[sH,↓sP,sA,tyS,simprocAttr];(repeat refine AI ?_);exact h):hwalk2 Tryz.prog ops nx Q ((i,cr,rd)::l) C fr ob:=
  bL U I fun K J=>e K (J _ _ h)
theorem WG0 (h:hwalk2G Tryz.prog ops nx Q l (if isEff o.op=true then C else(i,if hgd g fr=some true then touch o.op (ev fr)else [])::C) fr' ob')(U:ops[i]? =some o:=by exact rfl)(I:gd ops o=some g:=by exact rfl)
    (e: ∀K:Fr→Ob→Prop,K fr' ob'→hop1 Tryz.prog (nx+4*i) (cr.flatMap (ids4 nx)++rd.flatMap (getF C)) g o.op o.dst K fr ob:=by intro K h;simp only[sH,↓sP,sA,tyS,simprocAttr];(repeat refine AI ?_);exact h):hwalk2G Tryz.prog ops nx Q ((i,cr,rd)::l) C fr ob:=
  cT U I fun K J=>e K (J _ _ h)
end
theorem nM {α:Type}{l:List α}{i:Nat}(h:i<l.length)(f:α→CV):nth (l.map f) i=f l[i]:=aW h
theorem aI {a b:Prop}(x:a)(y:b):a∧b:=⟨x,y⟩
theorem TQ {a b q:Prop}(r:q)(h:b)(e:q→b→a:=by intro r h;simp only[↓sP,sA,tyS,simprocAttr,r];exact h):a:=e r h
theorem T6 {a b:Prop}(h:b)(e:b→a:=by intro h;simp only[sH,↓sP,sA,tyS,simprocAttr,F];exact h):a:=e h
section
variable {Q:Fr→Ob→Prop}
theorem SF {l:List Nat}(h:hlex Tryz.prog ops nx Q l fr' ob')(J:ops[i]? =some o:=by exact rfl)(U:gd ops o=some g:=by exact rfl)
    (e: ∀K:Fr→Ob→Prop,K fr' ob'→hop1 Tryz.prog (nx+4*i) [] g o.op o.dst K fr ob:=by intro K h;simp only[sH,↓sP,sA,tyS,simprocAttr,F];(repeat refine AI ?_);exact h):hlex Tryz.prog ops nx Q (i::l) fr ob:=
  aX J U fun K I=>e K (I _ _ h)
variable {cr rd:List Nat}{l:pX}{C:lT}
theorem WF (h:hwalk2 Tryz.prog ops nx Q l (if isEff o.op=true then C else(i,if hgd g fr=some true then touch o.op (ev fr)else [])::C) fr' ob')(U:ops[i]? =some o:=by exact rfl)(I:gd ops o=some g:=by exact rfl)
    (e: ∀K:Fr→Ob→Prop,K fr' ob'→hop1 Tryz.prog (nx+4*i) (cr.flatMap (ids4 nx)++rd.flatMap (getF C)) g o.op o.dst K fr ob:=by intro K h;simp only[sH,↓sP,sA,tyS,simprocAttr,F];(repeat refine AI ?_);exact h):hwalk2 Tryz.prog ops nx Q ((i,cr,rd)::l) C fr ob:=
  bL U I fun K J=>e K (J _ _ h)
theorem WGF (h:hwalk2G Tryz.prog ops nx Q l (if isEff o.op=true then C else(i,if hgd g fr=some true then touch o.op (ev fr)else [])::C) fr' ob')(U:ops[i]? =some o:=by exact rfl)(I:gd ops o=some g:=by exact rfl)
    (e: ∀K:Fr→Ob→Prop,K fr' ob'→hop1 Tryz.prog (nx+4*i) (cr.flatMap (ids4 nx)++rd.flatMap (getF C)) g o.op o.dst K fr ob:=by intro K h;simp only[sH,↓sP,sA,tyS,simprocAttr,F];(repeat refine AI ?_);exact h):hwalk2G Tryz.prog ops nx Q ((i,cr,rd)::l) C fr ob:=
  cT U I fun K J=>e K (J _ _ h)
end
section
variable {Q:Fr→Ob→Prop}
theorem SGF {l:List Nat}(h:hlexG Tryz.prog ops nx Q l fr' ob')(J:ops[i]? =some o:=by exact rfl)(U:gd ops o=some g:=by exact rfl)
    (e: ∀K:Fr→Ob→Prop,K fr' ob'→hop1 Tryz.prog (nx+4*i) [] g o.op o.dst K fr ob:=by intro K h;simp only[sH,↓sP,sA,tyS,simprocAttr,F];(repeat refine AI ?_);exact h):hlexG Tryz.prog ops nx Q (i::l) fr ob:=
  cE J U fun K I=>e K (I _ _ h)
end
theorem RF {id I:Nat}{J:Code}{Q:eI}(h:Hw Tryz.prog n k J Q fr' ob' I)(hd:gQ n ops=true:=by kernel_rfl)
    (e: ∀K:Fr→Ob→Nat→Prop,K fr' ob' I→hlex Tryz.prog ops nx (fun fr' ob'=>hthen K Q .normal fr' ob' (nx+4*ops.size)) (List.range ops.size) fr ob:=by intro K h;simp only[↓sP,sA,tyS,simprocAttr,F];(repeat refine AI ?_);exact h):
    Hw Tryz.prog n k (.seq (.region id ops false) J) Q fr ob nx:=aC fun K U=>aM hd (e K (U _ _ _ h))
theorem RT {a b:Prop}{x y:Array ResultVar}(r:x=y)(h:b)(e:x=y→b→a:=by intro r h;simp only[eR,r,eF,eQ,dY,↓sP,sA,tyS,simprocAttr];exact h):a:=e r h
theorem T3 {a b:Prop}(h:b)(e:b→a:=by intro h;simp only[↓sP,sA,tyS,simprocAttr];exact h):a:=e h
theorem T4 {a b:Prop}(h:b)(e:b→a:=by intro h;simp only[sE,↓reduceIte,simprocAttr];exact h):a:=e h
theorem T5 {a b:Prop}(h:b)(e:b→a:=by intro h;simp only[sH,↓sP,sA,tyS,simprocAttr];exact h):a:=e h
theorem CT {x y:Code}{o:Operand}{Q:eI}(I:ev fr o= .c (.bool true))(h:Hw Tryz.prog n k x Q fr ob nx):Hw Tryz.prog n k (.cond o x y) Q fr ob nx:=aJ I (fun _=>h) (fun I=>by cases I)
theorem CF {x y:Code}{o:Operand}{Q:eI}(I:ev fr o= .c (.bool false))(h:Hw Tryz.prog n k y Q fr ob nx):Hw Tryz.prog n k (.cond o x y) Q fr ob nx:=aJ I (fun I=>by cases I) (fun _=>h)
theorem FW {P:Program}{f:FuncId}{fn:Func}{code:Code}{args:List HV}{R:HV→Ob→Prop}(hf:P.funcs[f]? =some fn)(h:Hw P fn.ntmps k code (eR P fn.results.toList k R) (uF 0 args) ob k)(U:fn.body=some code:=by exact rfl)
    (J:fC P f=true:=by kernel_rfl) (I:LocOk k args ob:=by exact lL _) (hn:args.length≤fn.ntmps:=by exact C7 rfl):HFn P f args k ob R:=bO hf U J I hn h
theorem QW {id:Nat}{Q:eI}(h:hlex Tryz.prog ops nx (fun fr' ob'=>Q .normal fr' ob' (nx+4*ops.size)) (List.range ops.size) fr ob)(I:gQ n ops=true:=by kernel_rfl)(hp:lV ops (List.range ops.size) (Array.replicate ops.size false)=true:=by kernel_rfl)
    (J:ops.all (fun o=>bU o.op)=true:=by kernel_rfl):Hw Tryz.prog n k (.region id ops true) Q fr ob nx:=aY3 mixed I hp J h
theorem QR {id:Nat}{b:Prop}{Q:eI}(h:b)(I:gQ n ops=true:=by kernel_rfl)(hp:lV ops (List.range ops.size) (Array.replicate ops.size false)=true:=by kernel_rfl)(J:ops.all (fun o=>bU o.op)=true:=by kernel_rfl)
    (e:b→hlex Tryz.prog ops nx (fun fr' ob'=>Q .normal fr' ob' (nx+4*ops.size)) (List.range ops.size) fr ob:=by intro h;simp only[sR,simprocAttr];exact h):Hw Tryz.prog n k (.region id ops true) Q fr ob nx:=aY3 mixed I hp J (e h)
theorem DW {id:Nat}{Q:eI}(I:pX)(ms:List Nat)(h:hwalk2 Tryz.prog ops nx (fun fr' ob'=>Q .normal fr' ob' (nx+4*ops.size)) I [] fr ob)(hd:gQ n ops=true:=by kernel_rfl)(hp:lV ops (I.map (·.1)) (Array.replicate ops.size false)=true:=by kernel_rfl)
    (J:aY0 ops ms=true:=by kernel_rfl) (U:ms.all (fun m=>decide (m<2^ms.length))=true:=by kernel_rfl) (hl:I.length=ops.size:=by exact rfl) (hc:chk ops (aS0 ms) I []=true:=by kernel_rfl):Hw Tryz.prog n k (.region id ops true) Q fr ob nx:=
  cE3 mixed I ms hd hp J U hl hc h
theorem HS {l:List Nat}{Q:Fr→Ob→Prop}(I:ops[i]? =some o)(J:gd ops o=some none)(h: ∀K:Fr→Ob→Prop,(∀fr ob,hlex Tryz.prog ops nx Q l fr ob→K fr ob)→hop1 Tryz.prog (nx+4*i) [] none o.op o.dst K fr ob):hlex Tryz.prog ops nx Q (i::l) fr ob:=aX I J h
section
variable {P:Program}{av:List Nat}{f:FuncId}{nid:Nat}{K:HV→Ob→Prop}{a b c d:CV}{R:CV→Prop}{R2:CV→CV→Prop}
theorem C1 (h:bM P f [a] R)(I: ∀v,R v→K (.c v) ob)(hf:ob nid=none∧ob (nid+1)=none∧ob (nid+2)=none∧ob (nid+3)=none:=by exact⟨rfl,rfl,rfl,rfl⟩):HCall P av f [.c a] ob nid K:=jR (args:=[a]) h hf I
theorem C2 (h:bM P f [a,b] R)(I: ∀v,R v→K (.c v) ob)(hf:ob nid=none∧ob (nid+1)=none∧ob (nid+2)=none∧ob (nid+3)=none:=by exact⟨rfl,rfl,rfl,rfl⟩):HCall P av f [.c a,.c b] ob nid K:=jR (args:=[a,b]) h hf I
theorem C3 (h:bM P f [a,b,c] R)(I: ∀v,R v→K (.c v) ob)(hf:ob nid=none∧ob (nid+1)=none∧ob (nid+2)=none∧ob (nid+3)=none:=by exact⟨rfl,rfl,rfl,rfl⟩):HCall P av f [.c a,.c b,.c c] ob nid K:=jR (args:=[a,b,c]) h hf I
theorem D1 (h:fH P f [a] R2)(I: ∀u v,R2 u v→K (.tup [.c u,.c v]) ob)(hf:Free4 ob nid:=by exact⟨rfl,rfl,rfl,rfl⟩):HCall P av f [.c a] ob nid K:=aC3 (args:=[a]) h hf I
theorem D2 (h:fH P f [a,b] R2)(I: ∀u v,R2 u v→K (.tup [.c u,.c v]) ob)(hf:Free4 ob nid:=by exact⟨rfl,rfl,rfl,rfl⟩):HCall P av f [.c a,.c b] ob nid K:=aC3 (args:=[a,b]) h hf I
end
theorem lxM {P:Program}{Q J:Fr→Ob→Prop}(I: ∀fr ob,Q fr ob→J fr ob): ∀{l:List Nat} {fr:Fr} {ob:Ob},hlex P ops nx Q l fr ob→hlexG P ops nx J l fr ob
  |[],_,_,h=>I _ _ h
  |_::_,_,_,h=>sY (fun _ _=>lxM I) h
theorem RS {id:Nat}{J:Code}{I:eI}{l:List Nat}(h:hlex Tryz.prog ops nx (fun fr' ob'=>Hw Tryz.prog n k J I fr' ob' (nx+4*ops.size)) l fr ob)(hd:gQ n ops=true:=by kernel_rfl)
    (e: ∀Q:Fr→Ob→Prop,hlex Tryz.prog ops nx Q l fr ob→hlex Tryz.prog ops nx Q (List.range ops.size) fr ob:=by intro Q h;simp only[sR,simprocAttr];exact h):Hw Tryz.prog n k (.seq (.region id ops false) J) I fr ob nx:=
  aC fun K U=>aY hd (lxM (fun _ _ h=>U _ _ _ h) (e _ h))
theorem RE {J:Code}{I:eI}{m:Nat}(h:Hw Tryz.prog n k J I fr ob m)(e: ∀p:Nat→Prop,p m→p (nx+4*ops.size):=by intro p h;simp only[I8,A8,C0,Nat.reduceAdd,Nat.reduceMul];exact h):
    hlex Tryz.prog ops nx (fun fr' ob'=>Hw Tryz.prog n k J I fr' ob' (nx+4*ops.size)) [] fr ob:=e (fun m=>Hw Tryz.prog n k J I fr ob m) h
section
variable {Q:Fr→Ob→Prop}{l:List Nat}{f:FuncId}{args:List CV}{t:CV}{R:CV→Prop}{ff:HV→Fr}
theorem SC (hc:bM Tryz.prog f args (fun v=>v=t))(h:hlex Tryz.prog ops nx Q l (ff (.c t)) ob)(J:ops[i]? =some o:=by exact rfl)(hg:gd ops o=some g:=by exact rfl)
    (e: ∀K:Fr→Ob→Prop,HCall Tryz.prog [] f (args.map .c) ob (nx+4*i) (fun v ob'=>K (ff v) ob')→hop1 Tryz.prog (nx+4*i) [] g o.op o.dst K fr ob:=by intro K h;simp only[sH,↓sP,sA,tyS,simprocAttr];(repeat refine AI ?_);exact h)
    (hf:ob (nx+4*i)=none∧ob (nx+4*i+1)=none∧ob (nx+4*i+2)=none∧ob (nx+4*i+3)=none:=by exact⟨rfl,rfl,rfl,rfl⟩):hlex Tryz.prog ops nx Q (i::l) fr ob:=
  aX J hg fun K I=>e K (jR hc hf fun v U=>I _ _ (by cases U;exact h))
theorem SR (hc:bM Tryz.prog f args R)(h: ∀v,R v→hlex Tryz.prog ops nx Q l (ff (.c v)) ob)(J:ops[i]? =some o:=by exact rfl)(hg:gd ops o=some g:=by exact rfl)
    (e: ∀K:Fr→Ob→Prop,HCall Tryz.prog [] f (args.map .c) ob (nx+4*i) (fun v ob'=>K (ff v) ob')→hop1 Tryz.prog (nx+4*i) [] g o.op o.dst K fr ob:=by intro K h;simp only[sH,↓sP,sA,tyS,simprocAttr];(repeat refine AI ?_);exact h)
    (hf:ob (nx+4*i)=none∧ob (nx+4*i+1)=none∧ob (nx+4*i+2)=none∧ob (nx+4*i+3)=none:=by exact⟨rfl,rfl,rfl,rfl⟩):hlex Tryz.prog ops nx Q (i::l) fr ob:=
  aX J hg fun K I=>e K (jR hc hf fun v U=>I _ _ (h v U))
theorem SCF (hc:bM Tryz.prog f args (fun v=>v=t))(h:hlex Tryz.prog ops nx Q l (ff (.c t)) ob)(J:ops[i]? =some o:=by exact rfl)(hg:gd ops o=some g:=by exact rfl)
    (e: ∀K:Fr→Ob→Prop,HCall Tryz.prog [] f (args.map .c) ob (nx+4*i) (fun v ob'=>K (ff v) ob')→hop1 Tryz.prog (nx+4*i) [] g o.op o.dst K fr ob:=by intro K h;simp only[sH,↓sP,sA,tyS,simprocAttr,F];(repeat refine AI ?_);exact h)
    (hf:ob (nx+4*i)=none∧ob (nx+4*i+1)=none∧ob (nx+4*i+2)=none∧ob (nx+4*i+3)=none:=by exact⟨rfl,rfl,rfl,rfl⟩):hlex Tryz.prog ops nx Q (i::l) fr ob:=
  aX J hg fun K I=>e K (jR hc hf fun v U=>I _ _ (by cases U;exact h))
theorem SRF (hc:bM Tryz.prog f args R)(h: ∀v,R v→hlex Tryz.prog ops nx Q l (ff (.c v)) ob)(J:ops[i]? =some o:=by exact rfl)(hg:gd ops o=some g:=by exact rfl)
    (e: ∀K:Fr→Ob→Prop,HCall Tryz.prog [] f (args.map .c) ob (nx+4*i) (fun v ob'=>K (ff v) ob')→hop1 Tryz.prog (nx+4*i) [] g o.op o.dst K fr ob:=by intro K h;simp only[sH,↓sP,sA,tyS,simprocAttr,F];(repeat refine AI ?_);exact h)
    (hf:ob (nx+4*i)=none∧ob (nx+4*i+1)=none∧ob (nx+4*i+2)=none∧ob (nx+4*i+3)=none:=by exact⟨rfl,rfl,rfl,rfl⟩):hlex Tryz.prog ops nx Q (i::l) fr ob:=
  aX J hg fun K I=>e K (jR hc hf fun v U=>I _ _ (h v U))
end
attribute [simp] HV.men HV.menL HV.norm HV.toC HV.toCL HV.menL_append HO.men HV.close HV.closeL CV.denil CV.denilL HV.ren HV.renL HO.ren HO.close sD jQ fin_at finA_at fob_at upd_at none0_at aB9 dC8 dC9
structure Bx (b:Prop):Prop where
  o:b
theorem AE {a b:Prop}(h:b)(e:Bx b→a:=by intro h;(repeat first|refine SF ?_|refine S0 ?_|refine RE ?_);exact h.o):a:=e ⟨h⟩
theorem AU {a b:Prop}(h:b)(e:Bx b→a:=by intro h;(repeat first|refine SF ?_|refine S0 ?_|refine RE ?_|refine RS ?_);exact h.o):a:=e ⟨h⟩
end
end Go.Proofs.YthedbjfipmkpiaaGreatDoor
namespace Go.Hl
open Go
open Go.ChangeMaps (setBlock heap_setBlock_same heap_setBlock_other)
section
variable {P:Program}{n k:Nat}{ops:Array Oper}{nx i:Nat}{Kf:Fr→Ob→Prop}{fr:Fr}{ob:Ob}
def Lx (P:Program)(n k:Nat)(ops:Array Oper)(nx:Nat)(Kf:Fr→Ob→Prop)(i:Nat)(fr:Fr)(ob:Ob):Prop:=
 ∀(c:Ctx) (a:Act) (w:World) (Q:Exit→Act→World→Prop),c.n=n→c.M0=(· <k)→(∀fr' ob' a' w',Kf fr' ob'→RepA c (· <nx+4*ops.size) fr' ob' a' w'→Q .normal a' w')→RepA c (· <nx+4*i) fr ob a w→wpOpsIn c.F 0 P ops Q (List.range' i (ops.size-i)) a w
theorem bO8 {id:Nat}{Q:eI}(h:Lx P n k ops nx (fun fr' ob'=>Q .normal fr' ob' (nx+4*ops.size)) 0 fr ob):Hw P n k (.region id ops false) Q fr ob nx:=by
 intro c a w hn U hz hA;refine DR ?_;rw[Q3];exact h c a w _ hn U (fun fr' ob' a' w' J I=>⟨fr',ob',_,J,I⟩) hA
theorem aD2 (hi:i=ops.size)(h:Kf fr ob):Lx P n k ops nx Kf i fr ob:=by
 subst hi;intro c a w Q hn U I J;simp only[U3,AJ,wpOpsIn];exact I _ _ _ _ h J
theorem bA5 {o:Oper}{g:Option (Nat×Bool)}(hd:gQ n ops=true)(J:ops[i]? =some o)(hg:gd ops o=some g)(h: ∀K:Fr→Ob→Prop,(∀fr ob,Lx P n k ops nx Kf (i+1) fr ob→K fr ob)→hop1 P (nx+4*i) [] g o.op o.dst K fr ob):Lx P n k ops nx Kf i fr ob:=by
 intro c a w Q hn hk hQ hA;have hi:i<ops.size:=(G1.1 J).1;rw[show ops.size-i=(ops.size-(i+1))+1 by omega,U2,wpOpsIn_cons];have hI:=sY (fun _ _ x=>x) (nQ J hg (h _ (fun _ _ x=>x)));refine wpOpIn_mono (fun a' w' hx=>?_) (mT (Q:=Q) (M':=(· <nx+4*(i+1))) hA (fun t ht=>by omega) (fun i hi=>by omega) (fun t ht=>by omega) (by rw[hn];exact jL hd) hI);obtain⟨fr',ob',U,I⟩:=hx;exact U c a' w' Q hn hk hQ I
theorem aD3 {o:Oper}(hd:gQ n ops=true)(U:ops[i]? =some o)(hg:o.guard=none)(aa: ∀c,o.op≠ .defer c)
  (h: ∀(c:Ctx) (a:Act) (w:World) (ρ:Env),RepA' c (· <nx+4*i) fr ob a w ρ→(∀t,o.dst=some t→t<c.n)→ ∃y w' fr' ob',((execOp a.eval o).run P w= .ok (.value y) w'∨((execOp a.eval o).run P w= .ok .skip w'∧y=undef))∧Lx P n k ops nx Kf (i+1) fr' ob'∧RepA c (· <nx+4*(i+1)) fr' ob' (a.put o.dst y) w'):Lx P n k ops nx Kf i fr ob:=by
 intro c a w Q hn hk hQ hA;have hi:i<ops.size:=(G1.1 U).1;rw[show ops.size-i=(ops.size-(i+1))+1 by omega,U2,wpOpsIn_cons];obtain⟨ρ,hA⟩:=hA;unfold wpOpIn;rw[U];simp only;rw[B1 (by unfold Region.wanted;rw[hg])];obtain⟨y,w',fr',ob',I,hL,J⟩:=h c a w ρ hA (fun t ht=>by rw[hn];exact jL hd o (P2 U) t ht);refine⟨fun _ _=>trivial,?_⟩;rw[U9 _ _ _ aa];rcases I with I|⟨I,rfl⟩
 · rw[I];exact hL c _ w' Q hn hk hQ J
 · rw[I];exact hL c _ w' Q hn hk hQ J
section
variable {c:Ctx}{M:Nat→Prop}{a:Act}{w:World}{ρ:Env}
theorem dB2 (h:RepA' c M fr ob a w ρ){x:Operand}{id m:Nat}(hx:ev fr x= .ptr id 0){s q:Nat}{seen:Array Nat}(ho:ob id=some (.it m s seen q)){es:Array MapEntry}{U:Nat}(hm:ob m=some (.raw es U)):
  ∃b I,ρ id=some (.blk b)∧a.eval x= .pointer (some ⟨b,0,none⟩)∧w.heap[b]? =some (.mapIter (some I) s seen q)∧w.heap[I]? =some (.map es U)∧ρ m=some (.mp I fun _=>none):=by
 obtain⟨y,he,h1,hp⟩:=cD1 h hx;obtain⟨b,x',h2,h3,h4⟩:=h.s.objs id _ ho;obtain⟨I,J,h6⟩:=h.s.objs m _ hm;have:=h4 _ _ J;subst this;exact⟨b,x',h2,by grind,h3,h6,J⟩
end
theorem bJ8 {o:Oper}{t:TypeId}{d:Nat}(hd:gQ n ops=true)(ho:ops[i]? =some o)(hg:o.guard=none)(hop:o.op= .makeMap t none)(I:o.dst=some d)
  (h:Lx P n k ops nx Kf (i+1) (upd fr d (.mapr (nx+4*i))) (upd ob (nx+4*i) (some (.raw (jK []) 0)))):Lx P n k ops nx Kf i fr ob:=by
 refine aD3 hd ho hg (by rw[hop];intro c hc;cases hc) fun c a w ρ hA J=>?_;have:=hA.newObj (d:=o.dst) (w1:=w) (obj:= .map #[] 0) (nid:=nx+4*i) (M':=(· <nx+4*(i+1))) (v:= .mapr (nx+4*i)) (x:= .map (some w.heap.size)) (L:= .mp w.heap.size (fun _=>none)) (o:= .raw (jK []) 0) (by omega) (fun j hj=>by omega) (by omega) rfl rfl rfl rfl ?_ (fun _=>?_) trivial (.inr ?_) (by simp only[HV.men];omega) J
 · simp only[I]at this⊢;exact⟨.map (some w.heap.size),w.alloc (.map #[] 0),_,_,.inl (by simp only[execOp,hop];rfl),h,⟨_,this⟩⟩
 ·
  rintro b (hb|⟨k,v,e1,e2⟩)
  · exact hb
  · cases e1
 · exact⟨_,aR _ _ _,N4 w _⟩
 · refine dD ?_ rfl rfl;simp only[RepH];refine⟨_,rfl,by simp[Value.oneCell'],fun b hf U=>?_⟩;rw[aR]at U;cases U;rfl
theorem cG6 {o:Oper}{t kt et:TypeId}{x:Operand}{d id:Nat}{es:Array MapEntry}{I:Nat}(hd:gQ n ops=true)(ho:ops[i]? =some o)(hg:o.guard=none)(hop:o.op= .range t x)(U:o.dst=some d)
  (ad:P.underlying t=some (.map kt et)) (hx:ev fr x= .mapr id) (aa:ob id=some (.raw es I))
  (h:Lx P n k ops nx Kf (i+1) (upd fr d (.ptr (nx+4*i) 0)) (upd ob (nx+4*i) (some (.it id I #[] I)))):Lx P n k ops nx Kf i fr ob:=by
 refine aD3 hd ho hg (by rw[hop];intro c hc;cases hc) fun c a w ρ hA ab=>?_;obtain⟨b,h1,h2,h3⟩:=bH0 hA hx aa;have J:(execOp a.eval o).run P w= .ok (.value (.pointer (some ⟨w.heap.size,0,none⟩))) (w.alloc (.mapIter (some b) I #[] I)):=by
  have e:(newObj (.mapIter (some b) I #[] I)).run P w= .ok w.heap.size (w.alloc (.mapIter (some b) I #[] I)):=rfl;simp[execOp,hop,h2,Instr.range,D4 ad,L7 h3,Result.andThen,e]
 have hid:=(hA.mo id _ aa).1;have:=hA.newObj (d:=o.dst) (w1:=w) (obj:= .mapIter (some b) I #[] I) (nid:=nx+4*i) (M':=(· <nx+4*(i+1))) (v:= .ptr (nx+4*i) 0) (x:= .pointer (some ⟨w.heap.size,0,none⟩)) (L:= .blk w.heap.size) (o:= .it id I #[] I) (by omega) (fun j hj=>by omega) (by omega) rfl rfl rfl rfl ?_ (fun _=>?_) (by simp only[HO.men];omega) (.inr ?_) (by simp only[HV.men];omega) ab
 · simp only[U]at this⊢;exact⟨_,_,_,_,.inl J,h,⟨_,this⟩⟩
 · rintro b hb;exact hb
 · refine⟨_,b,aR _ _ _,N4 w _,fun bm hf hρ=>?_⟩;rw[bE _ _ (by omega),h1]at hρ;cases hρ;rfl
 · refine dD ?_ rfl rfl;simp only[RepH];refine⟨_,rfl,by simp[Value.oneCell'],fun b hρ=>?_⟩;rw[aR]at hρ;cases hρ;rfl
theorem nV {o:Oper}{t kt et:TypeId}{m kx vx:Operand}{id:Nat}{l:List (Int×List UInt8)}{z:Int}{s:List UInt8}(hd:gQ n ops=true)(ho:ops[i]? =some o)(hg:o.guard=none)(hop:o.op= .insert t m kx vx)(U:o.dst=none)
  (ad:P.underlying t=some (.map kt et)) (ab:P.underlying kt=some (.int .i64)) (hm:ev fr m= .mapr id) (aa:ob id=some (.raw (jK l) l.length)) (hk:ev fr kx= .c (.int .i64 z)) (hv:ev fr vx= .c (.str s)) (af:lkG l z=none)
  (h:Lx P n k ops nx Kf (i+1) fr (upd ob id (some (.raw (jK (l++[(z,s)])) (l.length+1))))):Lx P n k ops nx Kf i fr ob:=by
 refine aD3 hd ho hg (by rw[hop];intro c hc;cases hc) fun c a w ρ J ag=>?_;obtain⟨b,h1,h2,h3⟩:=bH0 J hm aa;obtain⟨r,f1,f2⟩:=sV z 0 0 l;rw[af]at f2;have hr:r=none:=by cases r with|none=>rfl|some x=>simp at f2
 subst hr;have I:(execOp a.eval o).run P w= .ok .skip (setBlock w b (.map (jK (l++[(z,s)])) (l.length+1))):=by
  have f3:Instr.findNow (.int .i64) (.int .i64 z) (jK l).toList 0=some none:=by simpa[jK]using f1
  simp[execOp,hop,h2,eC J hk,nA J hv,Instr.mapUpdate,D4 ad,L7 h3,bG9 ab,Instr.findKey,D4 ab,f3,V7 _ h3,Result.andThen,setBlock,bT9]
 have hid:=(J.mo id _ aa).1;have:=J.setObj (d:=none) (v:= .junk) (x:=undef) (w':=setBlock w b (.map (jK (l++[(z,s)])) (l.length+1))) (o:= .raw (jK (l++[(z,s)])) (l.length+1)) h1 (.inl rfl) hid (fun b' ae=>heap_setBlock_other h3 _ ae) (by simp[setBlock]) rfl rfl rfl (fun _=>⟨b,h1,heap_setBlock_same h3 _⟩) trivial (fun _=> .inl rfl) (by simp[HV.men]) (fun t ht=>by cases ht);rw[U];exact⟨undef,_,_,_,.inr ⟨I,rfl⟩,h,⟨_,this.weaken (fun j hj=>by omega)⟩⟩
theorem bW3 {l:List (Int×List UInt8)}: ∀x∈(jK l).toList,x.born<l.length:=fun x hx=>by
 obtain⟨j,I,rfl⟩:=bN7 0 l x (by simpa[jK]using hx);simpa using I
theorem cT4 {w:World}{ρ:Env}{O:Nat→Prop}(z:Int)(s:List UInt8):RepV w ρ O (.tup [.c (.int .i64 z),.c (.str s)]) (.tuple #[.int .i64 z,.string ⟨s.toArray⟩]):=by
 refine⟨?_,rfl⟩;simp only[RepH];exact⟨[_,_],rfl,by simp only[RepHV];exact⟨_,_,rfl,bQ (by simp[RepC]) rfl rfl,_,_,rfl,bQ (by simp[RepC]) rfl rfl,rfl⟩⟩
theorem cT5 {o:Oper}{x:Operand}{d it id:Nat}{l:List (Int×List UInt8)}{seen:Array Nat}(hd:gQ n ops=true)(ho:ops[i]? =some o)(hg:o.guard=none)(hop:o.op= .next x false)(U:o.dst=some d)
  (hx:ev fr x= .ptr it 0) (hit:ob it=some (.it id l.length seen l.length)) (hid:ob id=some (.raw (jK l) l.length))
  (ad:(∀j,j<l.length→seen.contains j=true)→Lx P n k ops nx Kf (i+1) (upd fr d (.tup [.c (.bool false)])) ob)
  (ab: ∀j (hj:j<l.length),seen.contains j=false→Lx P n k ops nx Kf (i+1) (upd fr d (.tup [.c (.bool true),.c (.int .i64 l[j].1),.c (.str l[j].2)])) (upd ob it (some (.it id l.length (seen.push j) l.length)))):Lx P n k ops nx Kf i fr ob:=by
 refine aD3 hd ho hg (by rw[hop];intro c hc;cases hc) fun c a w ρ hA ae=>?_;obtain⟨b,bm,h1,h2,h3,h4,h5⟩:=dB2 hA hx hit hid;rcases run_next_at (P:=P) w o.type b bm l.length l.length seen (jK l) l.length h3 h4 bW3 (E3 _)with⟨e1,J⟩|⟨e,he,w1,ak,J⟩
 ·
  have ag: ∀j,j<l.length→seen.contains j=true:=fun j hj=>by
   have ah:=cD5 0 l j hj;cases hc:seen.contains j with
   |true=>rfl
   |false=>
    exfalso;have:(⟨.int .i64 l[j].1,.string ⟨l[j].2.toArray⟩,0+j⟩:MapEntry)∈leftOf (jK l) seen:=by
     unfold leftOf;rw[Array.mem_filter];exact⟨by simpa[jK]using ah,by simp only[F0,hc,F7]⟩
    rw[Array.eq_empty_of_size_eq_zero e1]at this;simp at this
  have hv:RepV w ρ (Owned ρ c.X) (.tup [.c (.bool false)]) (.tuple #[.bool false]):=by
   refine⟨?_,rfl⟩;simp only[RepH];exact⟨[_],rfl,by simp only[RepHV];exact⟨_,_,rfl,bQ (by simp[RepC]) rfl rfl,rfl⟩⟩
  have:=hA.value (d:=o.dst) (.inr hv) (by simp[HV.men,HV.menL]) ae;rw[U]at this⊢;exact⟨_,_,_,_,.inl (by simp[execOp,hop,h2,J,Result.andThen]),ad ag,⟨_,this.weaken (fun j hj=>by omega)⟩⟩
 ·
  have aa:e∈esL 0 l∧seen.contains e.born=false:=by
   unfold leftOf at he;have:e∈Array.filter (fun e=>!seen.contains e.born) (jK l):=by simpa using he
   rw[Array.mem_filter]at this;exact⟨by simpa[jK]using this.1,by simpa using this.2⟩
  obtain⟨j,hj,rfl⟩:=bN7 0 l e aa.1;have hc:seen.contains j=false:=by simpa using aa.2
  have hw:w1.heap=w.heap∧w1.os=w.os∧w1.tape=w.tape∧w1.output=w.output:=by rcases ak with rfl|rfl<;>exact⟨rfl,rfl,rfl,rfl⟩
  obtain⟨w2,I⟩: ∃w2,w2=setBlock w1 b (.mapIter (some bm) l.length (seen.push j) l.length):=⟨_,rfl⟩;have an: ∀b',b'≠b→w2.heap[b']? =w.heap[b']? :=fun b' aj=>by
   rw[I,setBlock,←hw.1];simp only;rw[Array.getElem?_setIfInBounds_ne (fun e=>aj e.symm)]
  have ai:w2.heap[b]? =some (.mapIter (some bm) l.length (seen.push j) l.length):=by
   rw[I,setBlock,hw.1];simp only;have:=(G1.1 h3).1;rw[Array.getElem?_setIfInBounds_self];simp[this]
  have hm:=(hA.mo it _ hit).1;have ao:HO.men (· <nx+4*i) (.it id l.length (seen.push j) l.length):=by have:=(hA.mo id _ hid).1;simpa[HO.men]using this
  have hv: ∀w':World,RepV w' ρ (Owned ρ c.X) (.tup [.c (.bool true),.c (.int .i64 l[j].1),.c (.str l[j].2)]) (.tuple #[.bool true,.int .i64 l[j].1,.string ⟨l[j].2.toArray⟩]):=fun w'=>by
   refine⟨?_,rfl⟩;simp only[RepH];exact⟨[_,_,_],rfl,by simp only[RepHV];exact⟨_,_,rfl,bQ (by simp[RepC]) rfl rfl,_,_,rfl,bQ (by simp[RepC]) rfl rfl,_,_,rfl,bQ (by simp[RepC]) rfl rfl,rfl⟩⟩
  have:=hA.setObj (d:=o.dst) (v:= .tup [.c (.bool true),.c (.int .i64 l[j].1),.c (.str l[j].2)]) (x:= .tuple #[.bool true,.int .i64 l[j].1,.string ⟨l[j].2.toArray⟩]) (w':=w2) (o:= .it id l.length (seen.push j) l.length) h1 rfl hm an (by rw[I,setBlock,hw.1];simp) (by rw[I];exact hw.2.1) (by rw[I];exact hw.2.2.1) (by rw[I];exact hw.2.2.2) (fun _=>⟨b,bm,h1,ai,fun ar aq af=>by rw[h5]at af;cases af;rfl⟩) ao (fun _=> .inr (hv w2)) (by simp[HV.men,HV.menL]) ae;rw[U]at this⊢;rw[F0,←I]at J;exact⟨_,w2,_,_,.inl (by simp[execOp,hop,h2,J,Result.andThen]),ab j hj hc,⟨_,this.weaken (fun j hj=>by omega)⟩⟩
theorem cG7 {o:Oper}{x:Operand}{d it id:Nat}{l:List (Int×List UInt8)}{seen:Array Nat}{j:Nat}(hj:j<l.length)(hd:gQ n ops=true)(ho:ops[i]? =some o)(hg:o.guard=none)(hop:o.op= .entry x)(U:o.dst=some d)
  (hx:ev fr x= .ptr it 0) (hit:ob it=some (.it id l.length (seen.push j) l.length)) (hid:ob id=some (.raw (jK l) l.length))
  (h:Lx P n k ops nx Kf (i+1) (upd fr d (.tup [.c (.int .i64 l[j].1),.c (.str l[j].2)])) ob):Lx P n k ops nx Kf i fr ob:=by
 refine aD3 hd ho hg (by rw[hop];intro c hc;cases hc) fun c a w ρ hA aa=>?_;obtain⟨b,bm,h1,h2,h3,h4,h5⟩:=dB2 hA hx hit hid;have ab: ∀(b0:Nat) (l:List (Int×List UInt8)),((esL b0 l).map (·.born)).Nodup∧ ∀y∈(esL b0 l).map (·.born),b0≤y:=by
  intro b0 l;induction l generalizing b0 with
  |nil=>simp[esL]
  |cons y l ih=>
   obtain⟨i1,i2⟩:=ih (b0+1);refine⟨?_,?_⟩
   · simp only[esL,B8,X8];exact⟨fun I=>by have:=i2 _ I;omega,i1⟩
   ·
    simp only[esL,B8,E0];rintro z (rfl|hz)
    · exact E3 _
    · have:=i2 z hz;omega
 have I:=cD5 0 l j hj;have J:=run_entry_at (P:=P) w b bm l.length seen (jK l) l.length ⟨.int .i64 l[j].1,.string ⟨l[j].2.toArray⟩,0+j⟩ (by simpa using h3) h4 (by simpa[jK]using I) (by simpa[jK]using(ab 0 l).1);have:=hA.value (d:=o.dst) (.inr (cT4 l[j].1 l[j].2)) (by simp[HV.men,HV.menL]) aa;rw[U]at this⊢;exact⟨_,_,_,_,.inl (by simp[execOp,hop,h2,J,Result.andThen]),h,⟨_,this.weaken (fun j hj=>by omega)⟩⟩
end
end Go.Hl
namespace Go.Pl
open Go Go.Hl
def cX (c:UInt8):Bool:=decide ((33:Int)≤c.toNat)&&decide ((c.toNat:Int)≤125)&&((c.toNat:Int) !=37)
def qH (n:Nat):UInt8:=([48,49,50,51,52,53,54,55,56,57,65,66,67,68,69,70]:List UInt8).getD n 0
def lH (c:UInt8):List UInt8:=if cX c then [c]else [37,qH (c.toNat/16),qH (c.toNat%16)]
def dG (w:aK):aK:=w.flatMap lH
def gY (w:aK):aK:=if w=[]then [126]else dG w
def sizeW (w:aK):Nat:=max (dG w).length 1
@[simp] theorem dI2 :dG []=[]:=rfl
theorem cT6 (c:UInt8):(lH c).length≤3:=by grind[lH]
theorem cG8 (c:UInt8):1≤(lH c).length:=by grind[lH]
theorem uT (w:aK):(dG w).length≤3*w.length:=by
 induction w with
 |nil=>simp_all
 |cons c w I=>
  grind[cT6,dG,List.length_append,List.length_cons]
theorem bA6 (w:aK):w.length≤(dG w).length:=by
 induction w with
 |nil=>grind
 |cons c w I=>
  grind[cG8,dG,List.length_append,List.length_cons]
variable {i:Nat}
theorem tA {w:aK}(h:i<w.length):dG (w.take (i+1))=dG (w.take i)++lH w[i]:=by
 simp only[A5 h,dG,O7,G3,I9,J7]
theorem nG (w:aK)(i:Nat):(dG (w.take i)).length≤(dG w).length:=by
 have:dG w=dG (w.take i)++dG (w.drop i):=by simp[dG,←List.flatMap_append]
 grind
theorem mA (w:aK):(gY w).length=sizeW w:=by
 unfold gY sizeW;split
 · simp_all
 · rename_i h;have:=bA6 w;grind[List.length_pos_iff]
theorem dA (w:aK):sizeW w≤3*w.length+1:=by grind[uT,sizeW]
theorem nW (w:aK):1≤sizeW w:=by unfold sizeW;omega
theorem dN4 (n:Nat):(if(1:Int)>(n:Int)then(1:Int)else(n:Int))=((max n 1:Nat):Int):=by split<;>omega
theorem dE1 (c:UInt8):Int.fdiv (c.toNat:Int) (2^(min 4 IntKind.u8.bits))=((c.toNat/16:Nat):Int):=by
 rw[show min 4 IntKind.u8.bits=4 from rfl,Int.fdiv_eq_ediv_of_nonneg _ (by omega)];rfl
theorem cG9 (c:UInt8):IntKind.u8.wrap ((BitVec.ofInt IntKind.u8.bits (c.toNat:Int)&&&BitVec.ofInt IntKind.u8.bits 15).toNat:Int)=((c.toNat%16:Nat):Int):=by
 have h:=c.toNat_lt;have:(BitVec.ofInt IntKind.u8.bits (c.toNat:Int)&&&BitVec.ofInt IntKind.u8.bits 15).toNat=c.toNat%16:=by
  rw[BitVec.toNat_and];have J:(BitVec.ofInt IntKind.u8.bits (c.toNat:Int)).toNat=c.toNat:=by simp[IntKind.bits]
  have I:(BitVec.ofInt IntKind.u8.bits 15).toNat=15:=rfl;rw[J,I];exact Nat.and_two_pow_sub_one_eq_mod _ 4
 grind[IntWalk.u8_in]
theorem bT : ∀bs:List UInt8,CV.denilL (bs.map cM)=bs.map cM
 |[]=>rfl
 |b::bs=>by simp only[B8,CV.denilL,bT bs];rfl
def fR :List aK→aK
 |[]=>[]
 |w::l=>gY w++l.flatMap fun v=>32::gY v
theorem bW4 (l:List aK)(w:aK):fR (l++[w])=fR l++((if l=[]then []else [32])++gY w):=by
 cases l with
 |nil=>simp[fR]
 |cons a l=>simp[fR]
variable {l:List aK}
theorem nX (h:i<l.length):fR (l.take (i+1))=fR (l.take i)++((if i=0 then []else [32])++gY l[i]):=by grind[List.take_succ_eq_append_getElem,bW4,List.take_eq_nil_iff]
def rX (l:List aK):aK:=fR l++[10]
def dU (ls:List (List aK)):aK:=ls.flatMap rX
def gS (l:List aK):Nat:=(l.map fun w=>sizeW w+1).sum
def sumD (ls:List (List aK)):Nat:=(ls.map gS).sum
theorem bA7 : ∀(l:List aK),l≠[]→(fR l).length+1=gS l
 |[],h=>absurd rfl h
 |w::l,_=>by
  have: ∀l:List aK,(l.flatMap fun v=>32::gY v).length=gS l:=by
   intro l;induction l with
   |nil=>rfl
   |cons v l I=>grind[List.length_append,List.length_cons,mA,gS]
  grind[fR,List.length_append,mA,gS]
theorem cH0 (h:l≠[]):(rX l).length=gS l:=by grind[rX,List.length_append,bA7]
theorem bO9 (l:List aK):(fR l).length≤gS l:=by
 cases l with
 |nil=>simp[fR]
 |cons w l=>grind[bA7]
theorem kX : ∀{ls:List (List aK)},(∀l∈ls,l≠[])→(dU ls).length=sumD ls
 |[],_=>rfl
 |l::ls,h=>by
  have I:=kX (ls:=ls) fun x hx=>h x (H2 _ hx);grind[cH0,List.mem_cons_self,dU,sumD,List.length_append]
variable {ls:List (List aK)}
theorem rE (h:i<ls.length):dU (ls.take (i+1))=dU (ls.take i)++rX ls[i]:=by
 simp only[A5 h,dU,O7,G3,I9,J7]
theorem bW5 (h:i<l.length):gS (l.take (i+1))=gS (l.take i)+(sizeW l[i]+1):=by
 simp only[A5 h,gS,C5,List.sum_append,B8,F2,BY,CW,L4]
theorem bW6 (h:i<ls.length):sumD (ls.take (i+1))=sumD (ls.take i)+gS ls[i]:=by
 simp only[A5 h,sumD,C5,List.sum_append,B8,F2,BY,CW,L4]
@[simp] theorem dJ5 :dU []=[]:=rfl
@[simp] theorem dJ6 :fR []=[]:=rfl
@[simp] theorem dJ7 :gS []=0:=rfl
@[simp] theorem dJ8 :sumD []=0:=rfl
theorem uU (l:List aK)(i:Nat):gS (l.take i)≤gS l:=by grind[gS,List.take_append_drop]
theorem aS9 (l:List (List aK))(i:Nat):sumD (l.take i)≤sumD l:=by grind[sumD,List.take_append_drop]
def gZ (l:List aK):Int:=
 if l.length=0 then 1 else if 120<l.length then 3 else if l.any (fun w=>decide (32768<w.length))then 3 else 0
def okL (l:List aK):Bool:=gZ l==0
theorem eG (l:List aK):okL l=true↔l≠[]∧l.length≤120∧ ∀w∈l,w.length≤32768:=by
 unfold okL gZ;constructor
 ·
  intro h;split at h
  · grind
  ·
   split at h
   · grind
   · grind
 grind
theorem bP0 (h:okL l=true):gS l≤11796720:=by
 obtain⟨-,I,J⟩:=(eG l).1 h;have key: ∀l:List aK,(∀w∈l,w.length≤32768)→gS l≤98306*l.length:=by
  intro l;induction l with
  |nil=>simp_all
  |cons w l U=>
   grind[List.mem_cons_of_mem,List.mem_cons_self,dA,gS,List.length_cons]
 grind
theorem zN (h: ∀l∈ls,okL l=true):sumD ls≤11796720*ls.length:=by
 induction ls with
 |nil=>simp_all
 |cons l ls I=>
  grind[List.mem_cons_of_mem,bP0,List.mem_cons_self,sumD,List.length_cons]
theorem uV (l:List aK)(h: ∀w∈l,w.length≤32768):(fR l).length≤98306*l.length:=by
 have I:=bO9 l;have key: ∀l:List aK,(∀w∈l,w.length≤32768)→gS l≤98306*l.length:=by
  intro l;induction l with
  |nil=>simp_all
  |cons w l J=>
   grind[List.mem_cons_of_mem,List.mem_cons_self,dA,gS,List.length_cons]
 grind
theorem fJ {α:Type}{p:α→Prop}{l:List α}(h:i<l.length)(J:p l[i])(I: ∀x∈l.take i,p x): ∀x∈l.take (i+1),p x:=by
 intro x hx;rw[A5 h,D6,E5]at hx;grind
def jN (ls:List (List aK)):Int:=
 if 1000<ls.length then 3 else match ls.find? (fun l=>!okL l)with
  |some l=>gZ l
  |none=>if 262144<(dU ls).length then 3 else 0
def jZ (ls:List (List aK)):aK:=if jN ls=0 then dU ls else []
theorem nY (h:1000<ls.length):jN ls=3:=by unfold jN;grind
theorem fY (h:ls.length≤1000)(hi:i<ls.length)(I: ∀l∈ls.take i,okL l=true)(J:okL ls[i]=false):jN ls=gZ ls[i]:=by
 unfold jN;rw[A7 (by omega)];grind[okL,List.find?_eq_some_iff_append,List.getElem_cons_drop,List.take_append_drop]
theorem oY (h:ls.length≤1000)(I: ∀l∈ls,okL l=true):jN ls=if 262144<(dU ls).length then 3 else 0:=by
 unfold jN;grind
theorem bP1 (h:okL l=false):gZ l≠0:=by grind[okL]
theorem kY (h:jN ls≠0):jZ ls=[]:=by unfold jZ;grind
theorem uW (h:jN ls=0):jZ ls=dU ls:=by unfold jZ;grind
def pG (n:Nat):UInt8:=([48,49,50,51,52,53,54,55,56,57,97,98,99,100,101,102]:List UInt8).getD n 0
def bJ9 (c:UInt8):List UInt8:=[pG (c.toNat/16),pG (c.toNat%16)]
def iV (bs:List UInt8):List UInt8:=bs.flatMap bJ9
@[simp] theorem dJ9 :iV []=[]:=rfl
theorem kZ (bs:List UInt8):(iV bs).length=2*bs.length:=by
 induction bs with
 |nil=>rfl
 |cons c bs I=>grind[iV,List.length_append,List.length_cons,bJ9,List.length_nil]
theorem aM4 {bs:List UInt8}(h:i<bs.length):iV (bs.take (i+1))=iV (bs.take i)++bJ9 bs[i]:=by
 simp only[A5 h,iV,O7,G3,I9,J7]
end Go.Pl
namespace Go.Hl
open Go Go.Pl
variable {fn:Func}{f:FuncId}{P:Program}
theorem xB {e:Array Value→Sem Value}{args:List CV}{R:CV→Prop}(hf:P.funcs[f]? =some fn)(hname:(fn.name== "runtime.NumGoroutine")=false)
  (hb:fn.body.isNone=true) (hn:Extern.findNext fn=none) (he:Extern.find fn=some e)
  (h: ∀(w:World) (ρ:Env) (O:Nat→Prop) (xs:List Value),RepHV w ρ O (args.map .c) xs→ ∃v x,R v∧RepV w ρ O (.c v) x∧(e xs.toArray).run P w= .ok x w):bM P f args R:=by
 refine⟨by grind[bT6],fun w ρ X xs hS hA hX=> .inr ⟨by grind[fC,Option.isNone_iff_eq_none],?_⟩⟩;obtain⟨v,x,hR,hv,hrun⟩:=h w ρ _ xs hA;refine⟨x,by simp_all[Y3],.c v,cZ,ρ,x,rfl,⟨v,rfl,hR,rfl⟩,⟨hv,hS,by simp[HV.men],fun id o h=>by simp[cZ]at h,Stay2.refl _ _,Moves.refl _ _⟩⟩
theorem bP2 {w:World}{O:Nat→Prop}: ∀{l:List UInt8} {xs:List Value},RepL w O (l.map u8) xs→xs=l.map fun b=> .int .u8 (b.toNat:Int)
 |[],xs,h=>by simpa[RepL]using h
 |b::l,xs,h=>by
  simp only[B8,RepL,u8,RepC]at h;obtain⟨U,J,rfl,rfl,I⟩:=h;rw[bP2 I];rfl
variable {x:Value}{l:List UInt8}{O:Nat→Prop}{ρ:Env}{w:World}
theorem xC (h:RepV w ρ O (.c (.slc (l.map u8))) x):(Extern.Bytes.bytesOf x).run P w= .ok ⟨l.toArray⟩ w:=by
 have h1:=h.single rfl;simp only[RepC,F8,J9]at h1;obtain⟨a,cap,xs,sz,rfl,h2,_,h4,h5,h6⟩:=h1;have hx:=bP2 h2;cases a with
 |none=>
  have:=h5 rfl;have hl:l=[]:=by
   have:l.length=0:=by simp only[A0]at h4;omega
   exact D3 this
  subst hl;simp only[Extern.Bytes.bytesOf,I7];rfl
 |some J=>
  have hr:=(h6 J rfl).1;have:=Go.Lib.run_loadBytesX (P:=P) w (l.map fun b=>(b.toNat:Int)) J .empty (fun j y I=>hr j _ (by
   rw[hx];rw[O1]at I⊢;cases U:l[j]? with
   |none=>rw[U]at I;cases I
   |some b=>rw[U]at I;cases I;rfl))
  simp only[A0]at this;simp only[Extern.Bytes.bytesOf,A0,this];congr 2;simp only[Go.Lib.bytesOf,Q4];have e:l.map ((fun n:Int=>n.toNat.toUInt8)∘fun b:UInt8=>(b.toNat:Int))=l:=by
   conv=>rhs;rw[←List.map_id l]
   exact O6 fun b _=>by simp
  rw[e];simp
def mB (a b:List UInt8):Int:=if slt a b then-1 else if a==b then 0 else 1
def cH1 (a b:List UInt8):Int:=
 match(List.range (min a.length b.length)).find? fun i=>a.getD i 0 !=b.getD i 0 with
 |some i=>if a.getD i 0<b.getD i 0 then-1 else 1
 |none=>if a.length<b.length then-1 else if a.length>b.length then 1 else 0
theorem aD4 {p:Nat→Bool}(n:Nat):(List.range (n+1)).find? p=if p 0 then some 0 else((List.range n).find? fun i=>p (i+1)).map (· +1):=by
 rw[List.range_succ_eq_map,List.find?_cons,List.find?_map];split<;>simp_all[Function.comp];rfl
theorem bP3 : ∀a b:List UInt8,cH1 a b=mB a b
 |[],[]=>rfl
 |[],b::l=>by simp[cH1,mB,slt,Op.bytesLess]
 |a::l,[]=>by simp[cH1,mB,slt,Op.bytesLess]
 |a::l,b::m=>by
  have U:=bP3 l m;have I:min (a::l).length (b::m).length=min l.length m.length+1:=by simp only[A8];omega
  unfold cH1 at U⊢;rw[I,aD4];by_cases J:a=b
  · subst J;simp only[M9,CU,G9,L8,BQ];grind[mB,slt,Op.bytesLess,List.range,min]
  simp_all[M9,G4,mB,slt,Op.bytesLess]
variable {y:Value}
theorem cT7 {a b:List UInt8}(J:RepV w ρ O (.c (.slc (a.map u8))) x)(I:RepV w ρ O (.c (.slc (b.map u8))) y):
  (Extern.BytealgCompare.compare #[x,y]).run P w= .ok (.int .i64 (mB a b)) w:=by
 change (Sem.run P (do pure (goInt (Extern.BytealgCompare.cmp (←Extern.Bytes.bytesOf x) (←Extern.Bytes.bytesOf y)))) w)=_;simp only[G6,xC J,xC I,E6,I7,goInt];rw[←bP3];grind[ByteArray.size,Go.Lib.get!_eq,Extern.BytealgCompare.cmp,cH1,List.find?]
def gE (l:List UInt8)(c:UInt8):Int:=match l.findIdx? (· ==c)with|some i=>(i:Int)|none=> -1
theorem bA8 {α:Type}{p:α→Bool}(d:α): ∀(l:List α),(List.range l.length).find? (fun i=>p (l.getD i d))=l.findIdx? p
 |[]=>rfl
 |a::l=>by
  rw[A8,aD4,K4];simp only[M9,BQ];rw[bA8 d l]
variable {c:UInt8}
theorem bP4 (hx:(Extern.Bytes.bytesOf x).run P w= .ok ⟨l.toArray⟩ w)(I:(Extern.Bytes.asByte y).run P w= .ok c w):
  (Extern.BytealgIndexByte.indexByte #[x,y]).run P w= .ok (.int .i64 (gE l c)) w:=by
 change (Sem.run P (do
  let b←Extern.Bytes.bytesOf x
  let c←Extern.Bytes.asByte y
  match(List.range b.size).find? fun i=>b[i]! ==c with
  |some i=>pure (goInt i)
  |none=>pure (goInt (-1))) w)=_
 simp only[G6,hx,I,E6];have J:(⟨l.toArray⟩:ByteArray).size=l.length:=by simp[ByteArray.size]
 have U: ∀i:Nat,(⟨l.toArray⟩:ByteArray)[i]! =l.getD i 0:=fun i=>by exact Go.Lib.get!_eq l i
 simp only[J,U,bA8 (p:=fun b=>b==c)];unfold gE;cases l.findIdx? fun b=>b==c<;>rfl
theorem aD5 (h:RepV w ρ O (.c (u8 c)) y):(Extern.Bytes.asByte y).run P w= .ok c w:=by
 have I:=h.single rfl;simp_all[u8,RepC,F8,J9,Extern.Bytes.asByte]
theorem dE2 (hf:P.funcs[f]? =some fn)(hname:(fn.name== "runtime.NumGoroutine")=false)(hb:fn.body.isNone=true)(hn:Extern.findNext fn=none)
  (he:Extern.find fn=some Extern.BytealgIndexByte.indexByte) (l:List UInt8) (c:UInt8):bM P f [.slc (l.map u8),u8 c] (fun v=>v= .int .i64 (gE l c)):=
 xB hf hname hb hn he fun w ρ O xs h=>by
  simp only[B8,F2,bJ,RepHV]at h;obtain⟨x,l1,rfl,hx,y,l2,rfl,hy,rfl⟩:=h;exact⟨_,_,rfl,eU _ _ _ _ _,bP4 (xC hx) (aD5 hy)⟩
theorem cT8 (hf:P.funcs[f]? =some fn)(hname:(fn.name== "runtime.NumGoroutine")=false)(hb:fn.body.isNone=true)(hn:Extern.findNext fn=none)
  (he:Extern.find fn=some Extern.BytealgIndexByte.indexByte) (l:List UInt8) (c:UInt8):bM P f [.str l,u8 c] (fun v=>v= .int .i64 (gE l c)):=
 xB hf hname hb hn he fun w ρ O xs h=>by
  simp only[B8,F2,bJ,RepHV]at h;obtain⟨x,l1,rfl,hx,y,l2,rfl,hy,rfl⟩:=h;have hx':(Extern.Bytes.bytesOf x).run P w= .ok ⟨l.toArray⟩ w:=by
   have h1:=hx.single rfl;simp only[RepC,F8,J9]at h1;subst h1;rfl
  exact⟨_,_,rfl,eU _ _ _ _ _,bP4 hx' (aD5 hy)⟩
end Go.Hl
namespace Go.Pl
open Go Go.Hl
def aQ (c:UInt8):List UInt8→List (List UInt8)
 |[]=>[[]]
 |b::l=>if b=c then []::aQ c l else match aQ c l with
  |x::xs=>(b::x)::xs
  |[]=>[[b]]
theorem dI (c:UInt8)(l:List UInt8):aQ c l≠[]:=by
 cases l with
 |nil=>simp[aQ]
 |cons b l=>grind[aQ]
theorem tB (c:UInt8): ∀l:List UInt8,match l.findIdx? (· ==c)with
  |some i=>i<l.length∧aQ c l=l.take i::aQ c (l.drop (i+1))
  |none=>aQ c l=[l]
 |[]=>rfl
 |b::l=>by
  have J:=tB c l;rw[K4];by_cases h:b=c
  · grind[aQ]
  ·
   have I:(b==c)=false:=by simpa using h
   simp only[I,G9,L8];cases hf:l.findIdx? (· ==c)with
   |none=>
    simp_all[P6,aQ,A7]
   |some i=>
    simp_all[I2,aQ,A7,A8,P8,Q7,trivial]
variable {c:UInt8}{l:List UInt8}
theorem uX (h:gE l c<0):aQ c l=[l]:=by
 have:=tB c l;grind[gE]
theorem jT (h: ¬gE l c<0): ∃i:Nat,gE l c=(i:Int)∧i<l.length∧aQ c l=l.take i::aQ c (l.drop (i+1)):=by
 have:=tB c l;unfold gE at h⊢;grind
theorem dN (c:UInt8): ∀l:List UInt8,(aQ c l).length≤l.length+1
 |[]=>by simp[aQ]
 |b::l=>by
  have I:=dN c l;grind[aQ,List.length_cons]
theorem jO (c:UInt8): ∀(l:List UInt8),∀p∈aQ c l,p.length≤l.length
 |[],p,hp=>by grind[aQ]
 |b::l,p,hp=>by
  have I:=jO c l;unfold aQ at hp;split at hp
  · grind
  ·
   split at hp
   · grind
   grind
def valH (c:UInt8):Nat:=if 48≤c.toNat∧c.toNat≤57 then c.toNat-48 else if 65≤c.toNat∧c.toNat≤70 then c.toNat-55 else 16
theorem bP5 (c:UInt8):valH c≤16:=by grind[valH]
def byteH (x y:UInt8):UInt8:=UInt8.ofNat (16*valH x+valH y)
def okH (x y:UInt8):Bool:=decide (valH x<16)&&decide (valH y<16)&&!cX (byteH x y)
def unB :List UInt8→Option aK
 |[]=>some []
 |c::l=>if cX c then(unB l).map (c::·)else if c=37 then match l with
   |x::y::l'=>if okH x y then(unB l').map (byteH x y::·)else none
   |_=>none
  else none
def unW (s:aK):Option aK:=if s=[126]then some []else if s=[]then none else unB s
theorem rF {c:UInt8}{l:aK}(h:cX c=true):unB (c::l)=(unB l).map (c::·):=by
 rw[unB.eq_def];grind
theorem zO {c:UInt8}{l:aK}(h:cX c=false)(I:c≠37∨l.length<2):unB (c::l)=none:=by
 rw[unB.eq_def];grind
theorem aT0 {x y:UInt8}{l:aK}(h:okH x y=true):unB (37::x::y::l)=(unB l).map (byteH x y::·):=by
 rw[unB.eq_def];simp_all[cX,G9,L8,G4]
theorem yQ {x y:UInt8}{l:aK}(h:okH x y=false):unB (37::x::y::l)=none:=by simp_all[unB.eq_def,cX,G9,L8,G4]
variable {s:aK}
theorem dE3 {w:aK}(hs:s≠[])(h:unB s=some w):w≠[]:=by
 cases s with
 |nil=>grind
 |cons c l=>
  by_cases hp:cX c=true
  · rw[rF hp,C9]at h;grind
  ·
   have hp:cX c=false:=by simpa using hp
   rw[unB.eq_def]at h;simp only[hp,G9,L8]at h;split at h
   ·
    split at h
    ·
     split at h
     · rw[C9]at h;grind
     grind
    grind
   grind
def cT9 :List UInt8:=[48,49,50,51,52,53,54,55,56,57,65,66,67,68,69,70]
set_option maxRecDepth 20000 in
theorem uY (c:UInt8):gE cT9 c=if valH c<16 then(valH c:Int)else-1:=by
 have h: ∀n:Fin 256,gE cT9 (UInt8.ofNat n.1)=if valH (UInt8.ofNat n.1)<16 then(valH (UInt8.ofNat n.1):Int)else-1:=by decide
 have:=h ⟨c.toNat,c.toNat_lt⟩;simp_all
theorem xD {x y:UInt8}(hx:valH x<16)(I:valH y<16):(byteH x y).toNat=16*valH x+valH y:=by grind[byteH,UInt8.toNat_ofNat']
def UnSt (s:aK)(i:Nat)(out:aK):Prop:=i≤s.length∧unB s=(unB (s.drop i)).map (out++·)∧(out=[]→i=0)∧out.length≤i
section
variable {s:aK}{i:Nat}{out:aK}
theorem UnSt.init (s:aK):UnSt s 0 []:=⟨I1 _,by simp,fun _=>rfl,E3 _⟩
theorem UnSt.plain (h:UnSt s i out)(hi:i<s.length)(hp:cX s[i]=true):UnSt s (i+1) (out++[s[i]]):=by
 obtain⟨_,I,_,J⟩:=h;refine⟨hi,?_,by simp,by grind⟩;rw[I,F5 hi,rF hp,BH];congr 1;grind
theorem UnSt.bad1 (h:UnSt s i out)(hi:i<s.length)(hp:cX s[i]=false)(I:s[i]≠37∨s.length≤i+2):unB s=none:=by
 rw[h.2.1,F5 hi,zO hp (I.imp id fun h=>by grind)];rfl
theorem dB3 {s:aK}{i:Nat}(hi:i+2<s.length):s.drop i=s[i]::s[i+1]::s[i+2]::s.drop (i+3):=by
 rw[F5 (show i<s.length by omega),F5 (show i+1<s.length by omega),F5 hi]
theorem UnSt.esc (h:UnSt s i out)(hi:i+2<s.length)(I:s[i]=37)(J:okH s[i+1] s[i+2]=true):UnSt s (i+3) (out++[byteH s[i+1] s[i+2]]):=by
 obtain⟨_,U,_,h4⟩:=h;refine⟨hi,?_,by simp,by simp;omega⟩;rw[U,dB3 hi,I,aT0 J,BH];congr 1;funext l;simp
theorem UnSt.bad2 (h:UnSt s i out)(hi:i+2<s.length)(I:s[i]=37)(J:okH s[i+1] s[i+2]=false):unB s=none:=by
 rw[h.2.1,dB3 hi,I,yQ J];rfl
theorem jE (h:unB s=none)(I:s≠[126]):unW s=none:=by simp_all[unW,A7]
theorem UnSt.fin (h:UnSt s i out)(hi:i=s.length)(U:s≠[126]):unW s=if out=[]then none else some out:=by
 subst hi;obtain⟨_,h2,h3,I⟩:=h;rw[X0]at h2;unfold unW;rw[A7 U];by_cases J:out=[]
 · grind
 ·
  have hs:s≠[]:=by
   rintro rfl;simp only[C0,Nat.le_zero]at I;exact J (D3 I)
  simp_all[A7,unB]
end
def CutR (l:List UInt8)(c:UInt8)(li re:List UInt8)(fd:Bool):Prop:=
 (fd=false∧gE l c<0∧li=l∧re=[])∨(fd=true∧ ∃i:Nat,gE l c=(i:Int)∧i<l.length∧li=l.take i∧re=l.drop (i+1))
def unL (r:aK):Option (List aK):=(aQ 32 r).mapM unW
def unR (r:aK):Option (List aK):=match unL r with|some ws=>if okL ws then some ws else none|none=>none
def kF (b:aK):Option (List (List aK)):=
 if b=[]then some []else if(aQ 10 b).getLast (dI 10 b)=[]then(aQ 10 b).dropLast.mapM unR else none
variable {li:aK}
theorem bA9 {l re:aK}(hc:CutR l 10 li re true):kF l=(unR li).bind fun ws=>(kF re).map (ws::·):=by
 rcases hc with⟨h,_⟩|⟨_,i,h1,h2,rfl,rfl⟩
 · cases h
 ·
  obtain⟨I,h3,_,J⟩:=jT (l:=l) (c:=10) (by omega);have:I=i:=by omega
  subst this;have U:l≠[]:=by rintro rfl;simp at h2
  have hd:kF l=if(aQ 10 (l.drop (I+1))).getLast (dI 10 _)=[]then(l.take I::(aQ 10 (l.drop (I+1))).dropLast).mapM unR else none:=by
   unfold kF;rw[A7 U];simp only[J];grind[List.getLast_cons,dI,List.dropLast_cons_of_ne_nil]
  rw[hd];have he:kF (l.drop (I+1))=if(aQ 10 (l.drop (I+1))).getLast (dI 10 _)=[]then(aQ 10 (l.drop (I+1))).dropLast.mapM unR else none:=by
   unfold kF;split
   · rename_i h;rw[h];rfl
   · rfl
  rw[he];split
  ·
   rw[K6];cases unR (l.take I)with
   |none=>rfl
   |some ws=>cases(aQ 10 (l.drop (I+1))).dropLast.mapM unR<;>rfl
  simp_all
theorem aD6 {l U:aK}(I:CutR l 10 li U false)(J:l≠[]):kF l=none:=by
 rcases I with⟨_,h,_⟩|⟨h,_⟩
 all_goals simp_all[kF,A7,uX,List.getLast_singleton]
variable {fd:Bool}
theorem cH2 {l U:aK}(J:CutR l 10 li U fd)(I:l≠[])(h:unR li=none):kF l=none:=by
 cases fd with
 |false=>exact aD6 J I
 |true=>rw[bA9 J,h];rfl
theorem CutR.lt {l J:aK}(U:CutR l c li J fd)(I:l≠[]):J.length<l.length∧li.length≤l.length:=by
 have:0<l.length:=J8.2 I;rcases U with⟨_,_,rfl,rfl⟩|⟨_,i,_,h,rfl,rfl⟩
 all_goals grind
def wsT (r:aK)(i:Nat):List aK:=((aQ 32 r).take i).map fun p=>(unW p).getD []
def aI9 (r:aK)(i:Nat):Prop:= ∀p∈(aQ 32 r).take i,(unW p).isSome=true
variable {i:Nat}{r:aK}
theorem uZ (h:i<(aQ 32 r).length):wsT r (i+1)=wsT r i++[(unW (aQ 32 r)[i]).getD []]:=by
 simp only[wsT,A5 h,C5,B8,F2]
theorem mC (h:i≤(aQ 32 r).length):(wsT r i).length=i:=by grind[wsT,List.length_map,List.length_take]
theorem rG (h:i<(aQ 32 r).length)(J:aI9 r i)(I:(unW (aQ 32 r)[i]).isSome=true):aI9 r (i+1):=by
 intro p hp;rw[A5 h,D6,E5]at hp;rcases hp with hp|rfl
 · exact J p hp
 · exact I
theorem lN {α β:Type}{f:α→Option β}: ∀{l:List α} {x:α},x∈l→f x=none→l.mapM f=none
 |a::l,x,hx,h=>by
  rw[K6];rcases E0.1 hx with rfl|hx
  · grind
  · rw[lN hx h];simp_all
theorem vA {α β:Type}{f:α→Option β}(d:β): ∀{l:List α},(∀x∈l,(f x).isSome=true)→l.mapM f=some (l.map fun x=>(f x).getD d)
 |[],_=>rfl
 |a::l,h=>by
  rw[K6,vA d fun x hx=>h x (H2 _ hx)];grind[Option.isSome_iff_exists,List.mem_cons_self]
theorem cH3 (h:i<(aQ 32 r).length)(I:(unW (aQ 32 r)[i]).isSome=false):unR r=none:=by
 unfold unR unL;rw[lN (B5 h) (by simpa using I)]
theorem cU0 (h:aI9 r (aQ 32 r).length):unR r=if okL (wsT r (aQ 32 r).length)then some (wsT r (aQ 32 r).length)else none:=by
 unfold aI9 at h;rw[C6]at h;unfold unR unL;rw[vA [] h];simp only[wsT,C6]
def DecSt (b rest:aK)(ls:List (List aK)):Prop:=kF b=(kF rest).map (ls++·)∧rest.length≤b.length∧ls.length+rest.length≤b.length
theorem DecSt.init (b:aK):DecSt b b []:=⟨by simp,E3 _,by simp⟩
variable {ls:List (List aK)}{b rest:aK}
theorem DecSt.bad {U:aK}(h:DecSt b rest ls)(J:CutR rest 10 li U fd)(I:rest≠[])(hb:unR li=none):kF b=none:=by
 rw[h.1,cH2 J I hb];rfl
theorem DecSt.bad0 {U:aK}(h:DecSt b rest ls)(J:CutR rest 10 li U false)(I:rest≠[]):kF b=none:=by
 rw[h.1,aD6 J I];rfl
theorem DecSt.next {J:aK}(h:DecSt b rest ls)(U:CutR rest 10 li J true)(I:rest≠[]){ws:List aK}(hb:unR li=some ws):DecSt b J (ls++[ws]):=by
 have hl:=U.lt I;obtain⟨h1,h2,h3⟩:=h;refine⟨?_,by omega,by grind⟩;rw[h1,bA9 U,hb];cases kF J with
 |none=>rfl
 |some l=>simp
theorem DecSt.fin (h:DecSt b [] ls):kF b=some ls:=by
 rw[h.1];simp[kF]
def eT (b:aK):Int:=if 262144<b.length then 3 else match kF b with|some ls=>if 1000<ls.length then 2 else 0|none=>2
def gT (b:aK):List (List aK):=if eT b=0 then(kF b).getD []else []
structure Pt where
 k:Nat
 c:UInt8
def Pt.cv (x:Pt):CV:= .agg [.int .i64 x.k,.int .u8 x.c.toNat]
theorem Pt.cells (x:Pt):x.cv.cells=2:=by simp[Pt.cv,CV.cells,CV.cellsL]
theorem Pt.denil (x:Pt):x.cv.denil=x.cv:=by simp only[Pt.cv,CV.denil,CV.denilL]
theorem Pt.isAgg (x:Pt):x.cv.isAgg=true:=rfl
theorem Pt.getAll (x:Pt):CV.getAt 0 2 true x.cv=some x.cv:=by
 have:=Pt.cells x;simp_all[Pt.cv,CV.cells,CV.getAt,I4,G4]
theorem Pt.setAll (x:Pt)(y:HV):CV.setAt 0 2 y x.cv=some y:=by
 have:=Pt.cells x;simp_all[Pt.cv,CV.cells,CV.setAt,I4,G4]
theorem Pt.fold (k:Nat)(c:UInt8):CV.agg [.int .i64 k,.int .u8 c.toNat]=Pt.cv ⟨k,c⟩:=rfl
theorem Pt.get_k (x:Pt):CV.getAt 0 1 false x.cv=some (.int .i64 x.k):=by simp[Pt.cv,CV.getAt,CV.getAtL,CV.cells,CV.cellsL]
theorem Pt.get_c (x:Pt):CV.getAt 1 1 false x.cv=some (.int .u8 x.c.toNat):=by simp[Pt.cv,CV.getAt,CV.getAtL,CV.cells,CV.cellsL]
def patP :aK→Option (List Pt)
 |[]=>some []
 |c::l=>if c=0 then none
  else if c=92 then match l with
   |[]=>none
   |d::r=>if d=0 then none else(patP r).map (⟨0,d⟩::·)
  else if c=63 then(patP l).map (⟨1,0⟩::·)
  else if c=42 then match l with
   |[]=>some [⟨2,0⟩]
   |d::r=>if d=42 then(patP r).map (⟨3,0⟩::·)else(patP (d::r)).map (⟨2,0⟩::·)
  else(patP l).map (⟨0,c⟩::·)
def bK0 (p:aK):Option (List Pt):=if p.length<1∨200<p.length then none else patP p
def PatSt (p:aK)(i:Nat)(out:List Pt):Prop:=i≤p.length∧patP p=(patP (p.drop i)).map (out++·)∧out.length≤i∧ ∀x∈out,x.k≤3
theorem PatSt.init (p:aK):PatSt p 0 []:=⟨by omega,by simp,by simp,by simp⟩
section
variable {p:aK}{i:Nat}{out:List Pt}
theorem PatSt.fin (h:PatSt p i out)(hi:i=p.length):patP p=some out:=by
 rw[h.2.1,hi,X0,patP.eq_def];simp
theorem PatSt.step (h:PatSt p i out){k:Nat}{x:Pt}(J:i+k≤p.length)(U:1≤k)(hx:x.k≤3)(he:patP (p.drop i)=(patP (p.drop (i+k))).map (x::·)):PatSt p (i+k) (out++[x]):=by
 refine⟨J,?_,by have:=h.2.2.1;grind,fun y I=>?_⟩
 · rw[h.2.1,he,BH];congr 1;grind
 ·
  rcases D6.1 I with I|I
  · exact h.2.2.2 y I
  grind
theorem PatSt.bad (h:PatSt p i out)(he:patP (p.drop i)=none):patP p=none:=by rw[h.2.1,he];rfl
end
theorem vB (c:UInt8): ∀l:List UInt8,(aQ c l).length=Lib.countByte l c+1
 |[]=>rfl
 |b::l=>by
  have I:=vB c l;unfold Lib.countByte at I⊢;rw[List.count_cons];unfold aQ;by_cases h:b=c
  · rw[B1 h];simp only[A8,I,h,J5,G4]
  ·
   have J:(b==c)=false:=by simpa using h
   rw[A7 h];simp only[J,G9,L8,L4];split
   · rename_i x xs hx;rw[hx]at I;simpa using I
   · rename_i hx;exact absurd hx (dI c l)
theorem bK1 (h:(aQ c l).length=1):aQ c l=[l]:=by
 by_cases hn:gE l c<0;all_goals grind[uX,jT,List.length_pos_iff,dI,List.length_cons]
def SplSt (l:aK)(c:UInt8)(i:Nat)(rest:aK)(a:List aK):Prop:=
 a.length=(aQ c l).length∧a.take i=(aQ c l).take i∧(aQ c l).drop i=aQ c rest∧i<(aQ c l).length∧rest.length≤l.length
section
variable {l rest:aK}{c:UInt8}{i k:Nat}{a:List aK}
theorem SplSt.init (l:aK)(c:UInt8):SplSt l c 0 l (List.replicate (aQ c l).length []):=
 ⟨by simp,by simp,rfl,J8.2 (dI c l),E3 _⟩
theorem SplSt.next (h:SplSt l c i rest a)(hk:gE rest c=(k:Int)):k<rest.length∧SplSt l c (i+1) (rest.drop (k+1)) (a.set i (rest.take k)):=by
 obtain⟨h1,h2,I,J,h5⟩:=h;obtain⟨k',e1,e2,U⟩:=jT (l:=rest) (c:=c) (by omega);have:k'=k:=by omega
 subst this;rw[U]at I;have h6:=F5 J;rw[h6]at I;have h7:=List.head_eq_of_cons_eq I;have h8:=List.tail_eq_of_cons_eq I;refine⟨e2,by grind,?_,h8,?_,by grind⟩
 · rw[A5 (by grind),List.take_succ_eq_append_getElem J,List.getElem_set_self,List.take_set_of_le (Nat.le_refl _),h2,h7]
 grind[Nat.lt_or_ge,aQ,List.drop_eq_nil_of_le,absurd,dI]
theorem SplSt.last (h:SplSt l c i rest a)(J:gE rest c<0):i+1=(aQ c l).length:=by
 obtain⟨h1,U,I,h4,h5⟩:=h;rw[uX J]at I;have:=congrArg List.length I;grind
theorem SplSt.fin (h:SplSt l c i rest a)(hi:i+1=(aQ c l).length):a.set i rest=aQ c l:=by
 obtain⟨h1,h2,I,h4,h5⟩:=h;have J:(aQ c rest).length=1:=by rw[←I,G8];omega
 rw[bK1 J]at I;have U:a.set i rest=(a.set i rest).take (i+1):=(C8 (by grind)).symm;rw[U,A5 (by grind),List.getElem_set_self,List.take_set_of_le (Nat.le_refl _),h2];grind[List.take_append_drop,aQ]
end
def mO (c:UInt8):Bool:=decide (48≤c.toNat)&&decide (c.toNat≤57)
def gM :aK→Nat→Option Nat
 |[],n=>some n
 |c::l,n=>if mO c then gM l (10*n+(c.toNat-48))else none
def iA (s:aK):Bool:=decide (s.length<1)||decide (13<s.length)||(decide (1<s.length)&&s.getD 0 0==48)
def cU (s:aK):Option Int:=if iA s then none else match gM s 0 with|some n=>if 1099511627776<n then none else some (n:Int)|none=>none
def DgSt (s:aK)(i n:Nat):Prop:=i≤s.length∧gM s 0=gM (s.drop i) n∧n<10^i
theorem DgSt.init (s:aK):DgSt s 0 0:=⟨I1 _,rfl,by omega⟩
variable {n:Nat}
theorem DgSt.next (h:DgSt s i n)(hi:i<s.length)(I:mO s[i]=true):DgSt s (i+1) (10*n+(s[i].toNat-48)):=by
 obtain⟨h1,J,U⟩:=h;refine⟨hi,?_,?_⟩
 · rw[J,F5 hi,gM,B1 I]
 · simp only[mO,B3,C4]at I;grind
theorem DgSt.bad (h:DgSt s i n)(hi:i<s.length)(I:mO s[i]=false):gM s 0=none:=by
 rw[h.2.1,F5 hi,gM,A7 (by grind)]
theorem DgSt.fin (h:DgSt s i n)(hi:i=s.length):gM s 0=some n:=by
 rw[h.2.1,hi,X0];rfl
theorem DgSt.lt (h:DgSt s i n)(hs:s.length≤13):n<10000000000000:=by
 have:10^i≤10^13:=BF (by omega) (R6 h.1 hs);have:=h.2.2;omega
theorem qI (h:iA s=true):cU s=none:=by unfold cU;grind
theorem rH (h:gM s 0=none):cU s=none:=by grind[cU]
theorem bB0 (h:gM s 0=some n)(I:1099511627776<n):cU s=none:=by simp_all[cU,B1]
theorem aT1 {n:Nat}(I:iA s=false)(h:gM s 0=some n)(J: ¬1099511627776<n):cU s=some (n:Int):=by simp_all[cU,A7]
theorem bB1 (c:UInt8):mO c=(decide ((48:Int)≤(c.toNat:Int))&&decide ((c.toNat:Int)≤57)):=by
 unfold mO;grind
theorem iN {n:Int}(h:cU s=some n):0≤n∧n≤1099511627776:=by grind[cU]
end Go.Pl
