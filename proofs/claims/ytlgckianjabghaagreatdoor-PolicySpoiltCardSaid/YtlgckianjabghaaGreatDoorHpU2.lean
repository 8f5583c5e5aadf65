/- Part of a proof: walks of functions of the program, by contracts, and the rules they use. By an AI agent. -/
import Derived.Test.YtlgckianjabghaaGreatDoorHlTlaw
import Derived.Test.YtlgckianjabghaaGreatDoorHlIt
set_option maxRecDepth 10000
set_option maxHeartbeats 16000000
set_option linter.unusedSimpArgs false
set_option linter.unusedVariables false
set_option linter.defProp false
namespace Go.Proofs.YtlgckianjabghaaGreatDoor
open Go Go.Hl Go.Pl
def rI :=(A1 (A1 (A1 @rpost_exit (A1 @rpost_normal @rpost_ret)) (A1 @hscope_exit (A1 @hscope_normal @hscope_ret))) (A1 (A1 @ithen_normal (A1 @ithen_exit @ithen_ret)) (A1 @iblk_normal (A1 @iblk_exit @iblk_ret))))
section
variable {n k nx i:Nat}{ops:Array Oper}{o:Oper}{g:Option (Nat×Bool)}{fr fr':Fr}{ob ob':Ob}
theorem T0 {a b:Prop}(h:b)(e:b→a:=by intro h;simp only[↓sP,sA,tyS,simprocAttr];(repeat refine AI ?_);exact h):a:=e h
theorem T2 {a b:Prop}(h:b)(e:b→a:=by intro h;simp only[sE,↓reduceIte,simprocAttr];(repeat refine AI ?_);exact h):a:=e h
theorem AX {a b:Prop}(h:b)(e:b→a:=by intro h;(repeat refine AI ?_);exact h):a:=e h
theorem fF {l:List (Nat×HV)}{h:List (Nat×HO)}{nx2:Nat}(hk:k≤nx2:=by omega)(h1:gJ nx2 fr l:=by simp)
    (h2:dC nx2 ob h:=by simp):Fits k fr ob (fin l) (fob h) nx2:=aP hk h1 h2
theorem fG {l:List (Nat×HV)}{h:List (Nat×HO)}{nx2:Nat}(h12:gJ nx2 fr l∧dC nx2 ob h)(hk:k≤nx2:=by omega):Fits k fr ob (fin l) (fob h) nx2:=aP hk h12.1 h12.2
theorem Rg {id:Nat}{b:Prop}{Q:eW}(h:b)(hd:jH n ops=true:=by kernel_rfl)
    (e:b→hlex Tryz.prog ops nx (fun fr' ob'=>Q .normal fr' ob' (nx+4*ops.size)) (List.range ops.size) fr ob:=by intro h;simp only[sR,simprocAttr];exact h):Hw Tryz.prog n k (.region id ops false) Q fr ob nx:=aL hd (e h)
theorem fS (i:Nat)(h:(i:Int)<9223372036854775807:=by omega):IntKind.i64.wrap ((i:Int)+1)=(i:Int)+1:=A8 _ ⟨by omega,by omega⟩
theorem R0 {id nx':Nat}{c2:Code}{Q:eW}(h:Hw Tryz.prog n k c2 Q fr' ob' nx')(hd:jH n ops=true:=by kernel_rfl)
    (e: ∀K:Fr→Ob→Nat→Prop,K fr' ob' nx'→hlex Tryz.prog ops nx (fun fr' ob'=>hthen K Q .normal fr' ob' (nx+4*ops.size)) (List.range ops.size) fr ob:=by intro K h;simp only[↓sP,sA,tyS,simprocAttr];(repeat refine AI ?_);exact h):
    Hw Tryz.prog n k (.seq (.region id ops false) c2) Q fr ob nx:=aC fun K hK=>aL hd (e K (hK _ _ _ h))
section
variable {Q:Fr→Ob→Prop}
theorem S0 {l:List Nat}(h:hlex Tryz.prog ops nx Q l fr' ob')(ho:ops[i]? =some o:=by exact rfl)(hg:gd ops o=some g:=by exact rfl)
    (e: ∀K:Fr→Ob→Prop,K fr' ob'→hop1 Tryz.prog (nx+4*i) [] g o.op o.dst K fr ob:=by intro K h;simp only[sH,↓sP,sA,tyS,simprocAttr];(repeat refine AI ?_);exact h):hlex Tryz.prog ops nx Q (i::l) fr ob:=
  aW ho hg fun K hK=>e K (hK _ _ h)
theorem SG0 {l:List Nat}(h:hlexG Tryz.prog ops nx Q l fr' ob')(ho:ops[i]? =some o:=by exact rfl)(hg:gd ops o=some g:=by exact rfl)
    (e: ∀K:Fr→Ob→Prop,K fr' ob'→hop1 Tryz.prog (nx+4*i) [] g o.op o.dst K fr ob:=by intro K h;simp only[sH,↓sP,sA,tyS,simprocAttr];(repeat refine AI ?_);exact h):hlexG Tryz.prog ops nx Q (i::l) fr ob:=
  bU ho hg fun K hK=>e K (hK _ _ h)
variable {cr rd:List Nat}{l:oP}{C:kY}
theorem W0 (h:hwalk2 Tryz.prog ops nx Q l (if isEff o.op=true then C else(i,if hgd g fr=some true then touch o.op (ev fr)else [])::C) fr' ob')(ho:ops[i]? =some o:=by exact rfl)(hg:gd ops o=some g:=by exact rfl)
    (e: ∀K:Fr→Ob→Prop,K fr' ob'→hop1 Tryz.prog (nx+4*i) (cr.flatMap (ids4 nx)++rd.flatMap (getF C)) g o.op o.dst K fr ob:=by intro K h;simp only[sH,↓sP,sA,tyS,simprocAttr];(repeat refine AI ?_);exact h):hwalk2 Tryz.prog ops nx Q ((i,cr,rd)::l) C fr ob:=
  cT ho hg fun K hK=>e K (hK _ _ h)
theorem WG0 (h:hwalk2G Tryz.prog ops nx Q l (if isEff o.op=true then C else(i,if hgd g fr=some true then touch o.op (ev fr)else [])::C) fr' ob')(ho:ops[i]? =some o:=by exact rfl)(hg:gd ops o=some g:=by exact rfl)
    (e: ∀K:Fr→Ob→Prop,K fr' ob'→hop1 Tryz.prog (nx+4*i) (cr.flatMap (ids4 nx)++rd.flatMap (getF C)) g o.op o.dst K fr ob:=by intro K h;simp only[sH,↓sP,sA,tyS,simprocAttr];(repeat refine AI ?_);exact h):hwalk2G Tryz.prog ops nx Q ((i,cr,rd)::l) C fr ob:=
  bR ho hg fun K hK=>e K (hK _ _ h)
end
theorem nM {α:Type}{l:List α}{i:Nat}(h:i<l.length)(f:α→CV):nth (l.map f) i=f l[i]:=aV h
theorem aI {a b:Prop}(x:a)(y:b):a∧b:=⟨x,y⟩
theorem TQ {a b q:Prop}(r:q)(h:b)(e:q→b→a:=by intro r h;simp only[↓sP,sA,tyS,simprocAttr,r];exact h):a:=e r h
theorem T6 {a b:Prop}(h:b)(e:b→a:=by intro h;simp only[sH,↓sP,sA,tyS,simprocAttr,F];exact h):a:=e h
section
variable {Q:Fr→Ob→Prop}
theorem SF {l:List Nat}(h:hlex Tryz.prog ops nx Q l fr' ob')(ho:ops[i]? =some o:=by exact rfl)(hg:gd ops o=some g:=by exact rfl)
    (e: ∀K:Fr→Ob→Prop,K fr' ob'→hop1 Tryz.prog (nx+4*i) [] g o.op o.dst K fr ob:=by intro K h;simp only[sH,↓sP,sA,tyS,simprocAttr,F];(repeat refine AI ?_);exact h):hlex Tryz.prog ops nx Q (i::l) fr ob:=
  aW ho hg fun K hK=>e K (hK _ _ h)
variable {cr rd:List Nat}{l:oP}{C:kY}
theorem WF (h:hwalk2 Tryz.prog ops nx Q l (if isEff o.op=true then C else(i,if hgd g fr=some true then touch o.op (ev fr)else [])::C) fr' ob')(ho:ops[i]? =some o:=by exact rfl)(hg:gd ops o=some g:=by exact rfl)
    (e: ∀K:Fr→Ob→Prop,K fr' ob'→hop1 Tryz.prog (nx+4*i) (cr.flatMap (ids4 nx)++rd.flatMap (getF C)) g o.op o.dst K fr ob:=by intro K h;simp only[sH,↓sP,sA,tyS,simprocAttr,F];(repeat refine AI ?_);exact h):hwalk2 Tryz.prog ops nx Q ((i,cr,rd)::l) C fr ob:=
  cT ho hg fun K hK=>e K (hK _ _ h)
theorem WGF (h:hwalk2G Tryz.prog ops nx Q l (if isEff o.op=true then C else(i,if hgd g fr=some true then touch o.op (ev fr)else [])::C) fr' ob')(ho:ops[i]? =some o:=by exact rfl)(hg:gd ops o=some g:=by exact rfl)
    (e: ∀K:Fr→Ob→Prop,K fr' ob'→hop1 Tryz.prog (nx+4*i) (cr.flatMap (ids4 nx)++rd.flatMap (getF C)) g o.op o.dst K fr ob:=by intro K h;simp only[sH,↓sP,sA,tyS,simprocAttr,F];(repeat refine AI ?_);exact h):hwalk2G Tryz.prog ops nx Q ((i,cr,rd)::l) C fr ob:=
  bR ho hg fun K hK=>e K (hK _ _ h)
end
section
variable {Q:Fr→Ob→Prop}
theorem SGF {l:List Nat}(h:hlexG Tryz.prog ops nx Q l fr' ob')(ho:ops[i]? =some o:=by exact rfl)(hg:gd ops o=some g:=by exact rfl)
    (e: ∀K:Fr→Ob→Prop,K fr' ob'→hop1 Tryz.prog (nx+4*i) [] g o.op o.dst K fr ob:=by intro K h;simp only[sH,↓sP,sA,tyS,simprocAttr,F];(repeat refine AI ?_);exact h):hlexG Tryz.prog ops nx Q (i::l) fr ob:=
  bU ho hg fun K hK=>e K (hK _ _ h)
end
theorem RF {id nx':Nat}{c2:Code}{Q:eW}(h:Hw Tryz.prog n k c2 Q fr' ob' nx')(hd:jH n ops=true:=by kernel_rfl)
    (e: ∀K:Fr→Ob→Nat→Prop,K fr' ob' nx'→hlex Tryz.prog ops nx (fun fr' ob'=>hthen K Q .normal fr' ob' (nx+4*ops.size)) (List.range ops.size) fr ob:=by intro K h;simp only[↓sP,sA,tyS,simprocAttr,F];(repeat refine AI ?_);exact h):
    Hw Tryz.prog n k (.seq (.region id ops false) c2) Q fr ob nx:=aC fun K hK=>aL hd (e K (hK _ _ _ h))
theorem RT {a b:Prop}{x y:Array ResultVar}(r:x=y)(h:b)(e:x=y→b→a:=by intro r h;simp only[gI,r,fV,gH,fJ,↓sP,sA,tyS,simprocAttr];exact h):a:=e r h
theorem T3 {a b:Prop}(h:b)(e:b→a:=by intro h;simp only[↓sP,sA,tyS,simprocAttr];exact h):a:=e h
theorem T4 {a b:Prop}(h:b)(e:b→a:=by intro h;simp only[sE,↓reduceIte,simprocAttr];exact h):a:=e h
theorem T5 {a b:Prop}(h:b)(e:b→a:=by intro h;simp only[sH,↓sP,sA,tyS,simprocAttr];exact h):a:=e h
theorem CT {x y:Code}{o:Operand}{Q:eW}(hb:ev fr o= .c (.bool true))(h:Hw Tryz.prog n k x Q fr ob nx):Hw Tryz.prog n k (.cond o x y) Q fr ob nx:=aF hb (fun _=>h) (fun hb=>by cases hb)
theorem CF {x y:Code}{o:Operand}{Q:eW}(hb:ev fr o= .c (.bool false))(h:Hw Tryz.prog n k y Q fr ob nx):Hw Tryz.prog n k (.cond o x y) Q fr ob nx:=aF hb (fun hb=>by cases hb) (fun _=>h)
theorem FW {P:Program}{f:FuncId}{fn:Func}{code:Code}{args:List HV}{R:HV→Ob→Prop}(hf:P.funcs[f]? =some fn)(h:Hw P fn.ntmps k code (gI P fn.results.toList k R) (sT 0 args) ob k)(hb:fn.body=some code:=by exact rfl)
    (hok:fQ P f=true:=by kernel_rfl) (hloc:LocOk k args ob:=by exact kR _) (hn:args.length≤fn.ntmps:=by exact C4 rfl):HFn P f args k ob R:=cA hf hb hok hloc hn h
theorem QW {id:Nat}{Q:eW}(h:hlex Tryz.prog ops nx (fun fr' ob'=>Q .normal fr' ob' (nx+4*ops.size)) (List.range ops.size) fr ob)(hd:jH n ops=true:=by kernel_rfl)(hp:lA ops (List.range ops.size) (Array.replicate ops.size false)=true:=by kernel_rfl)
    (hq:ops.all (fun o=>cE o.op)=true:=by kernel_rfl):Hw Tryz.prog n k (.region id ops true) Q fr ob nx:=aR5 mixed hd hp hq h
theorem QR {id:Nat}{b:Prop}{Q:eW}(h:b)(hd:jH n ops=true:=by kernel_rfl)(hp:lA ops (List.range ops.size) (Array.replicate ops.size false)=true:=by kernel_rfl)(hq:ops.all (fun o=>cE o.op)=true:=by kernel_rfl)
    (e:b→hlex Tryz.prog ops nx (fun fr' ob'=>Q .normal fr' ob' (nx+4*ops.size)) (List.range ops.size) fr ob:=by intro h;simp only[sR,simprocAttr];exact h):Hw Tryz.prog n k (.region id ops true) Q fr ob nx:=aR5 mixed hd hp hq (e h)
theorem DW {id:Nat}{Q:eW}(plan:oP)(ms:List Nat)(h:hwalk2 Tryz.prog ops nx (fun fr' ob'=>Q .normal fr' ob' (nx+4*ops.size)) plan [] fr ob)(hd:jH n ops=true:=by kernel_rfl)(hp:lA ops (plan.map (·.1)) (Array.replicate ops.size false)=true:=by kernel_rfl)
    (hw1:aR2 ops ms=true:=by kernel_rfl) (hw2:ms.all (fun m=>decide (m<2^ms.length))=true:=by kernel_rfl) (hl:plan.length=ops.size:=by exact rfl) (hc:chk ops (aK3 ms) plan []=true:=by kernel_rfl):Hw Tryz.prog n k (.region id ops true) Q fr ob nx:=
  bV7 mixed plan ms hd hp hw1 hw2 hl hc h
theorem HS {l:List Nat}{Q:Fr→Ob→Prop}(ho:ops[i]? =some o)(hg:gd ops o=some none)(h: ∀K:Fr→Ob→Prop,(∀fr ob,hlex Tryz.prog ops nx Q l fr ob→K fr ob)→hop1 Tryz.prog (nx+4*i) [] none o.op o.dst K fr ob):hlex Tryz.prog ops nx Q (i::l) fr ob:=aW ho hg h
section
variable {P:Program}{av:List Nat}{f:FuncId}{nid:Nat}{K:HV→Ob→Prop}{a b c d:CV}{R:CV→Prop}{R2:CV→CV→Prop}
theorem C1 (h:cG P f [a] R)(hK: ∀v,R v→K (.c v) ob)(hf:ob nid=none∧ob (nid+1)=none∧ob (nid+2)=none∧ob (nid+3)=none:=by exact⟨rfl,rfl,rfl,rfl⟩):HCall P av f [.c a] ob nid K:=jK (args:=[a]) h hf hK
theorem C2 (h:cG P f [a,b] R)(hK: ∀v,R v→K (.c v) ob)(hf:ob nid=none∧ob (nid+1)=none∧ob (nid+2)=none∧ob (nid+3)=none:=by exact⟨rfl,rfl,rfl,rfl⟩):HCall P av f [.c a,.c b] ob nid K:=jK (args:=[a,b]) h hf hK
theorem C3 (h:cG P f [a,b,c] R)(hK: ∀v,R v→K (.c v) ob)(hf:ob nid=none∧ob (nid+1)=none∧ob (nid+2)=none∧ob (nid+3)=none:=by exact⟨rfl,rfl,rfl,rfl⟩):HCall P av f [.c a,.c b,.c c] ob nid K:=jK (args:=[a,b,c]) h hf hK
theorem D1 (h:gB P f [a] R2)(hK: ∀u v,R2 u v→K (.tup [.c u,.c v]) ob)(hf:Free4 ob nid:=by exact⟨rfl,rfl,rfl,rfl⟩):HCall P av f [.c a] ob nid K:=rP (args:=[a]) h hf hK
theorem D2 (h:gB P f [a,b] R2)(hK: ∀u v,R2 u v→K (.tup [.c u,.c v]) ob)(hf:Free4 ob nid:=by exact⟨rfl,rfl,rfl,rfl⟩):HCall P av f [.c a,.c b] ob nid K:=rP (args:=[a,b]) h hf hK
end
theorem lxM {P:Program}{Q Q':Fr→Ob→Prop}(hQ: ∀fr ob,Q fr ob→Q' fr ob): ∀{l:List Nat} {fr:Fr} {ob:Ob},hlex P ops nx Q l fr ob→hlexG P ops nx Q' l fr ob
  |[],_,_,h=>hQ _ _ h
  |_::_,_,_,h=>uO (fun _ _=>lxM hQ) h
theorem RS {id:Nat}{c2:Code}{Qp:eW}{l:List Nat}(h:hlex Tryz.prog ops nx (fun fr' ob'=>Hw Tryz.prog n k c2 Qp fr' ob' (nx+4*ops.size)) l fr ob)(hd:jH n ops=true:=by kernel_rfl)
    (e: ∀Q:Fr→Ob→Prop,hlex Tryz.prog ops nx Q l fr ob→hlex Tryz.prog ops nx Q (List.range ops.size) fr ob:=by intro Q h;simp only[sR,simprocAttr];exact h):Hw Tryz.prog n k (.seq (.region id ops false) c2) Qp fr ob nx:=
  aC fun K hK=>aZ hd (lxM (fun _ _ h=>hK _ _ _ h) (e _ h))
theorem RE {c2:Code}{Qp:eW}{m:Nat}(h:Hw Tryz.prog n k c2 Qp fr ob m)(e: ∀p:Nat→Prop,p m→p (nx+4*ops.size):=by intro p h;simp only[I6,B0,E5,Nat.reduceAdd,Nat.reduceMul];exact h):
    hlex Tryz.prog ops nx (fun fr' ob'=>Hw Tryz.prog n k c2 Qp fr' ob' (nx+4*ops.size)) [] fr ob:=e (fun m=>Hw Tryz.prog n k c2 Qp fr ob m) h
section
variable {Q:Fr→Ob→Prop}{l:List Nat}{f:FuncId}{args:List CV}{t:CV}{R:CV→Prop}{ff:HV→Fr}
theorem SC (hc:cG Tryz.prog f args (fun v=>v=t))(h:hlex Tryz.prog ops nx Q l (ff (.c t)) ob)(ho:ops[i]? =some o:=by exact rfl)(hg:gd ops o=some g:=by exact rfl)
    (e: ∀K:Fr→Ob→Prop,HCall Tryz.prog [] f (args.map .c) ob (nx+4*i) (fun v ob'=>K (ff v) ob')→hop1 Tryz.prog (nx+4*i) [] g o.op o.dst K fr ob:=by intro K h;simp only[sH,↓sP,sA,tyS,simprocAttr];(repeat refine AI ?_);exact h)
    (hf:ob (nx+4*i)=none∧ob (nx+4*i+1)=none∧ob (nx+4*i+2)=none∧ob (nx+4*i+3)=none:=by exact⟨rfl,rfl,rfl,rfl⟩):hlex Tryz.prog ops nx Q (i::l) fr ob:=
  aW ho hg fun K hK=>e K (jK hc hf fun v hv=>hK _ _ (by cases hv;exact h))
theorem SR (hc:cG Tryz.prog f args R)(h: ∀v,R v→hlex Tryz.prog ops nx Q l (ff (.c v)) ob)(ho:ops[i]? =some o:=by exact rfl)(hg:gd ops o=some g:=by exact rfl)
    (e: ∀K:Fr→Ob→Prop,HCall Tryz.prog [] f (args.map .c) ob (nx+4*i) (fun v ob'=>K (ff v) ob')→hop1 Tryz.prog (nx+4*i) [] g o.op o.dst K fr ob:=by intro K h;simp only[sH,↓sP,sA,tyS,simprocAttr];(repeat refine AI ?_);exact h)
    (hf:ob (nx+4*i)=none∧ob (nx+4*i+1)=none∧ob (nx+4*i+2)=none∧ob (nx+4*i+3)=none:=by exact⟨rfl,rfl,rfl,rfl⟩):hlex Tryz.prog ops nx Q (i::l) fr ob:=
  aW ho hg fun K hK=>e K (jK hc hf fun v hv=>hK _ _ (h v hv))
theorem SCF (hc:cG Tryz.prog f args (fun v=>v=t))(h:hlex Tryz.prog ops nx Q l (ff (.c t)) ob)(ho:ops[i]? =some o:=by exact rfl)(hg:gd ops o=some g:=by exact rfl)
    (e: ∀K:Fr→Ob→Prop,HCall Tryz.prog [] f (args.map .c) ob (nx+4*i) (fun v ob'=>K (ff v) ob')→hop1 Tryz.prog (nx+4*i) [] g o.op o.dst K fr ob:=by intro K h;simp only[sH,↓sP,sA,tyS,simprocAttr,F];(repeat refine AI ?_);exact h)
    (hf:ob (nx+4*i)=none∧ob (nx+4*i+1)=none∧ob (nx+4*i+2)=none∧ob (nx+4*i+3)=none:=by exact⟨rfl,rfl,rfl,rfl⟩):hlex Tryz.prog ops nx Q (i::l) fr ob:=
  aW ho hg fun K hK=>e K (jK hc hf fun v hv=>hK _ _ (by cases hv;exact h))
end
attribute [simp] HV.men HV.menL HV.norm HV.toC HV.toCL HV.menL_append HO.men HV.close HV.closeL CV.denil CV.denilL HV.ren HV.renL HO.ren HO.close gJ dC fin_at finA_at fob_at upd_at none0_at mF cR6 cR7
structure Bx (b:Prop):Prop where
  o:b
theorem AE {a b:Prop}(h:b)(e:Bx b→a:=by intro h;(repeat first|refine SF ?_|refine S0 ?_|refine RE ?_);exact h.o):a:=e ⟨h⟩
theorem AU {a b:Prop}(h:b)(e:Bx b→a:=by intro h;(repeat first|refine SF ?_|refine S0 ?_|refine RE ?_|refine RS ?_);exact h.o):a:=e ⟨h⟩
end
end Go.Proofs.YtlgckianjabghaaGreatDoor
namespace Go.Pl
open Go Go.Hl
section
variable {r:Rt}{role:aH}{a b:List Dig}{t:Int}
end
section
variable {α:Type}{p:α→Bool}{l:List α}
theorem bP0 {i:Nat}(hi:i<l.length)(h:p l[i]=false)(h0: ∀x∈l.take i,p x=false): ∀x∈l.take (i+1),p x=false:=fun x hx=>by
 rw[B3 hi,F4,G0]at hx;rcases hx with hx|rfl
 · exact h0 x hx
 · exact h
end
def alZ (c:UInt8):Bool:=(decide (97≤(c.toNat:Int))&&decide ((c.toNat:Int)≤122))||(decide (48≤(c.toNat:Int))&&decide ((c.toNat:Int)≤57))
def puZ (c:UInt8):Bool:=((c.toNat:Int)==46)||(((c.toNat:Int)==95)||((c.toNat:Int)==45))
def okc (i:Nat)(c:UInt8):Bool:=alZ c||(decide (0<(i:Int))&&puZ c)
theorem cY1 (c:UInt8):al c=alZ c:=by
 have h1:decide ((97:UInt8)≤c)=decide (97≤(c.toNat:Int)):=by rw[Bool.eq_iff_iff];simp only[B9,R4];show 97≤c.toNat↔_;omega
 have h2:decide (c≤(122:UInt8))=decide ((c.toNat:Int)≤122):=by rw[Bool.eq_iff_iff];simp only[B9,R4];show c.toNat≤122↔_;omega
 have h3:decide ((48:UInt8)≤c)=decide (48≤(c.toNat:Int)):=by rw[Bool.eq_iff_iff];simp only[B9,R4];show 48≤c.toNat↔_;omega
 have h4:decide (c≤(57:UInt8))=decide ((c.toNat:Int)≤57):=by rw[Bool.eq_iff_iff];simp only[B9,R4];show c.toNat≤57↔_;omega
 grind[al,alZ]
theorem dB5 (c d:UInt8):(c==d)=((c.toNat:Int)==(d.toNat:Int)):=by
 rw[T7];simp only[G9];constructor
 · grind
 grind[UInt8.toNat_inj]
theorem dB6 (c:UInt8):nc c=(alZ c||puZ c):=by simp_all[nc,puZ,cY1,dB5]
variable {s:aH}
theorem mS :dX s=true↔(1≤s.length∧s.length≤64)∧ ∀i (h:i<s.length),okc i s[i]=true:=by
 cases s with
 |nil=>simp[dX]
 |cons c r=>
  simp only[dX,A6,B9,H6,cY1,dB6];constructor
  ·
   rintro⟨h1,h2,h3⟩;refine⟨⟨by simp,h1⟩,fun i hi=>?_⟩;cases i with
   |zero=>simp[okc,h2]
   |succ i=>
    have:=h3 _ (C0 (by grind:i<r.length));simp only[U7];unfold okc;grind
  ·
   rintro⟨⟨_,h1⟩,h3⟩;refine⟨h1,?_,fun x hx=>?_⟩
   · grind[okc]
   · obtain⟨i,hi,rfl⟩:=S2.1 hx;have:=h3 (i+1) (by grind);simp only[U7]at this;unfold okc at this;grind
theorem aE9 (h: ¬(1≤s.length∧s.length≤64)):dX s=false:=by grind[dX,absurd,mS]
variable {i:Nat}
theorem aF0 (hi:i<s.length)(h:okc i s[i]=false):dX s=false:=by grind[dX,mS]
theorem bP1 (hi:i<s.length)(h:okc i s[i]=true)(h0: ∀j (_:j<i) (h:j<s.length),okc j s[j]=true): ∀j (_:j<i+1) (h:j<s.length),okc j s[j]=true:=fun j hj h'=>by grind
def gU (s:aH):Bool:=(s==[])||(decide (64<(s.length:Int))||(((gb s 0).toNat:Int)==46||(((gb s 0).toNat:Int)==95||((gb s 0).toNat:Int)==45)))
theorem bC6 (h:gU s=true):dX s=false:=by
 cases s with
 |nil=>rfl
 |cons c r=>
  cases hn:dX (c::r)
  · rfl
  · obtain⟨⟨h1,h2⟩,h3⟩:=mS.1 hn;have h4:=h3 0 (by simp);simp only[gU,gb,Q1,N8,B9,G9]at h;grind[okc,alZ,List.length_cons]
theorem bP2 (h:gU s=false)(hall: ∀j (h:j<s.length),(alZ s[j]||puZ s[j])=true):dX s=true:=by
 cases s with
 |nil=>simp[gU]at h
 |cons c r=>
  simp only[gU,gb,Q1,K7,C6]at h;obtain⟨_,h1,h2,h3,h4⟩:=h;refine mS.2 ⟨⟨by simp,by grind⟩,fun i hi=>?_⟩;have:=hall i hi;cases i with
  |zero=>
   simp_all[O8,puZ,E1,okc]
  |succ i=>
   have h0:decide (0<((i+1:Nat):Int))=true:=by simp only[decide_eq_true_eq];omega
   simp_all[okc,B1]
theorem bC7 {j:Nat}(hj:j<s.length)(h:(alZ s[j]||puZ s[j])=false):dX s=false:=
 aF0 hj (by grind[alZ,puZ,okc])
section
variable {α β:Type}
def bP3 (r:α→α→Bool):List α→Bool
 |a::b::l=>r a b&&bP3 r (b::l)
 |_=>true
theorem aT9 {r:α→α→Bool}: ∀{l:List α},bP3 r l=true↔ ∀i (h:i+1<l.length),r l[i] l[i+1]=true
 |[]=>by simp[bP3]
 |[a]=>by simp[bP3]
 |a::b::l=>by
  have ih:=aT9 (r:=r) (l:=b::l);simp only[bP3,A6,ih];constructor
  ·
   rintro⟨h1,h2⟩ i hi;cases i with
   |zero=>exact h1
   |succ i=>exact h2 i (by simpa using hi)
  · intro h;exact⟨h 0 (by simp),fun i hi=>h (i+1) (by simpa using hi)⟩
def GoodTo (p:α→Bool)(r:α→α→Bool)(l:List α)(i:Nat):Prop:=(∀j (h:j<l.length),j<i→p l[j]=true)∧ ∀j (h:j+1<l.length),j+1<i→r l[j] l[j+1]=true
variable {p:α→Bool}{r:α→α→Bool}{l:List α}
theorem GoodTo.zero :GoodTo p r l 0:=⟨fun j _ h=>by omega,fun j _ h=>by omega⟩
theorem GoodTo.one (hi:0<l.length)(h:p l[0]=true):GoodTo p r l 1:=by
 refine⟨fun j h' hj=>?_,fun j _ h=>by omega⟩;have:j=0:=by omega
 subst this;exact h
theorem GoodTo.succ {i:Nat}(hi:i+1<l.length)(h:p l[i+1]=true)(hr:r l[i] l[i+1]=true)(h0:GoodTo p r l (i+1)):GoodTo p r l (i+1+1):=by
 refine⟨fun j h' hj=>?_,fun j h' hj=>?_⟩
 ·
  rcases H0 j (i+1)with h1|h1
  · exact h0.1 j h' h1
  ·
   have:j=i+1:=by omega
   subst this;exact h
 ·
  rcases H0 (j+1) (i+1)with h1|h1
  · exact h0.2 j h' h1
  ·
   have:j=i:=by omega
   subst this;exact hr
theorem GoodTo.all (h:GoodTo p r l l.length):(l.all p&&bP3 r l)=true:=by
 rw[A6,H6,aT9];refine⟨fun x hx=>?_,fun i hi=>h.2 i hi hi⟩;obtain⟨i,hi,rfl⟩:=S2.1 hx;exact h.1 i hi hi
end
theorem denilL_u8 (l:List UInt8):CV.denilL (l.map u8)=l.map u8:=cX (f:=u8) (fun _=>rfl) l
theorem nR {s:aH}(h:(s==[])=false):(0:Int)<(s.length:Int):=by
 cases s with
 |nil=>cases h
 |cons x s=>rw[B0];omega
def kSz (k:Ky):Prop:=k.o.length<2^63∧k.rs.length<2^40∧ ∀w∈k.rs,w.length<2^63
def rSz (r:Rt):Prop:=(r.q.length<2^40∧ ∀q∈r.q,q.r.length<2^63)∧(r.k.length<2^40∧ ∀k∈r.k,kSz k)∧r.x.length<2^40
end Go.Pl
namespace Go.Proofs.YtlgckianjabghaaGreatDoor
open Go Go.Hl Go.Pl
theorem yV (n:Int):cG Tryz.prog 38 [.int .i64 n] (fun v=>v= .bool (inN n)):=by
 refine FW Tryz.func38 ?_;refine AU ?_;refine aG 4 rfl (fun h1_4=>?_) (fun h1_4=>?_)
 · have F:=h1_4;refine AU ?_;refine aE (RT Tryz.results38 ?_);refine aK [] (.bool _) rfl ?_;simp[h1_4,inN,uP];all_goals first|rfl|simp_all
 have F:=h1_4;refine AU ?_;refine aE (RT Tryz.results38 ?_);refine aK [] (.bool _) rfl ?_;simp[h1_4,inN,uP];all_goals first|rfl|simp_all
theorem aL5 (s:aH)(hl:s.length<2^63):cG Tryz.prog 58 [.str s] (fun v=>v= .bool (dX s)):=by
 refine FW Tryz.func58 ?_;refine R0 ?_;refine aC fun K hK=>?_;refine AU ?_;refine aG 7 rfl (fun h1_7=>?_) (fun h1_7=>?_)
 · have F:=h1_7;refine AU ?_;refine CT rfl ?_;refine R0 ?_;refine aE (RT Tryz.results58 ?_);exact aK [] (.bool false) rfl (by rw[aE9 (by simp at h1_7;omega)])
 have F:=h1_7;refine AU ?_;refine aF (b:=_) rfl (fun hb=>?_) (fun hb=>?_)
 · refine R0 ?_;refine aE (RT Tryz.results58 ?_);exact aK [] (.bool false) rfl (by rw[aE9 (by simp at hb;omega)])
 refine aJ ?_;refine T0 (hK _ _ _ ?_);clear hK K;refine aC fun K hK=>?_;refine R0 ?_;refine aM ?_;have hlen:1≤s.length∧s.length≤64:=by simp at h1_7 hb;omega
 refine bN (α:={i:Nat//i≤s.length∧ ∀j (_:j<i) (h:j<s.length),okc j s[j]=true}) (fun i=>(fin [(0,.c (.str s)),(3,.c (.int .i64 i.1))],fob [])) 100 (fun i=>s.length-i.1) ⟨0,by omega,fun j h=>by omega⟩ (fF) ?_;clear hb;rintro⟨i,hi,h0⟩;refine aC fun K hK=>?_;refine AU ?_;refine aF (b:=decide ((i:Int)<s.length)) rfl (fun hb=>?_) (fun hb=>?_)
 ·
  have hlt:i<s.length:=by simpa using hb
  have hgd:s.getD i 0=s[i]:=by simp[hlt]
  refine aJ ?_;refine T0 (hK _ _ _ ?_);clear hK K;refine aC fun K hK=>?_;refine aM ?_;refine RS ?_;iterate 4 refine S0 ?_ (e:=fun _ h_=>by simp only[sH,↓sP,sA,tyS,simprocAttr,A0,A4,hlt,hgd,h1_7];exact AX h_)
  refine RE ?_;refine aC fun K hK=>?_;refine aC fun K hK=>?_;have key: ∀(b:Bool) fr ob nx,b=okc i s[i]→Fits 0 fr ob (fin [(0,.c (.str s)),(3,.c (.int .i64 i)),(51,.c (.bool b))]) (fob []) 600→K fr ob nx:=by
   rintro b fr ob nx rfl hf;refine hK _ _ _ (bB hf ?_);clear hf hK K;refine aF (b:=okc i s[i]) rfl (fun hb=>?_) (fun hb=>?_)
   · refine bG (T3 ?_);clear hK K;refine AX (hK _ _ _ ?_);clear hK K;refine aL (by kernel_rfl) ?_;refine TQ (fS i) ?_;refine⟨⟨i+1,hlt,bP1 hlt hb h0⟩,fF,?_⟩;show s.length-(i+1)<s.length-i;omega
   refine aJ ?_;refine T0 (hK _ _ _ ?_);clear hK K;refine R0 ?_;refine aE (RT Tryz.results58 ?_);exact aK [] (.bool false) rfl (by rw[aF0 hlt hb])
  refine Rg ?_;refine AU ?_;refine aG 23 rfl (fun h7_23=>?_) (fun h7_23=>?_)
  ·
   have F:=aI h1_7 h7_23;refine AU ?_;refine aG 26 rfl (fun h7_26=>?_) (fun h7_26=>?_)
   · have F:=aI h1_7 (aI h7_23 h7_26);refine AU ?_;refine T4 ?_;exact key true _ _ _ (by simp only[okc,alZ,puZ,h1_7,h7_23,h7_26,D4,C9,B1,B7,F0,B4,A9,E1,E3,F1]) (fF)
   have F:=aI h1_7 (aI h7_23 h7_26);refine AU ?_;refine aG 30 rfl (fun h7_30=>?_) (fun h7_30=>?_)
   ·
    have F:=aI h1_7 (aI h7_23 (aI h7_26 h7_30));refine AU ?_;refine aG 33 rfl (fun h7_33=>?_) (fun h7_33=>?_)
    · have F:=aI h1_7 (aI h7_23 (aI h7_26 (aI h7_30 h7_33)));refine AU ?_;refine T4 ?_;exact key true _ _ _ (by simp only[okc,alZ,puZ,h1_7,h7_23,h7_26,h7_30,h7_33,D4,C9,B1,B7,F0,B4,A9,E1,E3,F1]) (fF)
    have F:=aI h1_7 (aI h7_23 (aI h7_26 (aI h7_30 h7_33)));refine AU ?_;refine aG 38 rfl (fun h7_38=>?_) (fun h7_38=>?_)
    ·
     have F:=aI h1_7 (aI h7_23 (aI h7_26 (aI h7_30 (aI h7_33 h7_38))));refine AU ?_;refine aG 41 rfl (fun h7_41=>?_) (fun h7_41=>?_)
     · have F:=aI h1_7 (aI h7_23 (aI h7_26 (aI h7_30 (aI h7_33 (aI h7_38 h7_41)))));refine AU ?_;refine T4 ?_;exact key true _ _ _ (by simp only[okc,alZ,puZ,h1_7,h7_23,h7_26,h7_30,h7_33,h7_38,h7_41,D4,C9,B1,B7,F0,B4,A9,E1,E3,F1]) (fF)
     have F:=aI h1_7 (aI h7_23 (aI h7_26 (aI h7_30 (aI h7_33 (aI h7_38 h7_41)))));refine AU ?_;refine aG 44 rfl (fun h7_44=>?_) (fun h7_44=>?_)
     · have F:=aI h1_7 (aI h7_23 (aI h7_26 (aI h7_30 (aI h7_33 (aI h7_38 (aI h7_41 h7_44))))));refine AU ?_;refine T4 ?_;exact key true _ _ _ (by simp only[okc,alZ,puZ,h1_7,h7_23,h7_26,h7_30,h7_33,h7_38,h7_41,h7_44,D4,C9,B1,B7,F0,B4,A9,E1,E3,F1]) (fF)
     have F:=aI h1_7 (aI h7_23 (aI h7_26 (aI h7_30 (aI h7_33 (aI h7_38 (aI h7_41 h7_44))))));refine AU ?_;refine aG 48 rfl (fun h7_48=>?_) (fun h7_48=>?_)
     · simp only[h7_48];refine T4 ?_;exact key true _ _ _ (by simp only[okc,alZ,puZ,h1_7,h7_23,h7_26,h7_30,h7_33,h7_38,h7_41,h7_44,h7_48,D4,C9,B1,B7,F0,B4,A9,E1,E3,F1]) (fF)
     simp only[h7_48];refine T4 ?_;exact key false _ _ _ (by simp only[okc,alZ,puZ,h1_7,h7_23,h7_26,h7_30,h7_33,h7_38,h7_41,h7_44,h7_48,D4,C9,B1,B7,F0,B4,A9,E1,E3,F1]) (fF)
    have F:=aI h1_7 (aI h7_23 (aI h7_26 (aI h7_30 (aI h7_33 h7_38))));refine AU ?_;refine T4 ?_;exact key false _ _ _ (by simp only[okc,alZ,puZ,h1_7,h7_23,h7_26,h7_30,h7_33,h7_38,D4,C9,B1,B7,F0,B4,A9,E1,E3,F1]) (fF)
   have F:=aI h1_7 (aI h7_23 (aI h7_26 h7_30));refine AU ?_;refine aG 38 rfl (fun h7_38=>?_) (fun h7_38=>?_)
   ·
    have F:=aI h1_7 (aI h7_23 (aI h7_26 (aI h7_30 h7_38)));refine AU ?_;refine aG 41 rfl (fun h7_41=>?_) (fun h7_41=>?_)
    · have F:=aI h1_7 (aI h7_23 (aI h7_26 (aI h7_30 (aI h7_38 h7_41))));refine AU ?_;refine T4 ?_;exact key true _ _ _ (by simp only[okc,alZ,puZ,h1_7,h7_23,h7_26,h7_30,h7_38,h7_41,D4,C9,B1,B7,F0,B4,A9,E1,E3,F1]) (fF)
    have F:=aI h1_7 (aI h7_23 (aI h7_26 (aI h7_30 (aI h7_38 h7_41))));refine AU ?_;refine aG 44 rfl (fun h7_44=>?_) (fun h7_44=>?_)
    · have F:=aI h1_7 (aI h7_23 (aI h7_26 (aI h7_30 (aI h7_38 (aI h7_41 h7_44)))));refine AU ?_;refine T4 ?_;exact key true _ _ _ (by simp only[okc,alZ,puZ,h1_7,h7_23,h7_26,h7_30,h7_38,h7_41,h7_44,D4,C9,B1,B7,F0,B4,A9,E1,E3,F1]) (fF)
    have F:=aI h1_7 (aI h7_23 (aI h7_26 (aI h7_30 (aI h7_38 (aI h7_41 h7_44)))));refine AU ?_;refine aG 48 rfl (fun h7_48=>?_) (fun h7_48=>?_)
    · simp only[h7_48];refine T4 ?_;exact key true _ _ _ (by simp only[okc,alZ,puZ,h1_7,h7_23,h7_26,h7_30,h7_38,h7_41,h7_44,h7_48,D4,C9,B1,B7,F0,B4,A9,E1,E3,F1]) (fF)
    simp only[h7_48];refine T4 ?_;exact key false _ _ _ (by simp only[okc,alZ,puZ,h1_7,h7_23,h7_26,h7_30,h7_38,h7_41,h7_44,h7_48,D4,C9,B1,B7,F0,B4,A9,E1,E3,F1]) (fF)
   have F:=aI h1_7 (aI h7_23 (aI h7_26 (aI h7_30 h7_38)));refine AU ?_;refine T4 ?_;exact key false _ _ _ (by simp only[okc,alZ,puZ,h1_7,h7_23,h7_26,h7_30,h7_38,D4,C9,B1,B7,F0,B4,A9,E1,E3,F1]) (fF)
  have F:=aI h1_7 h7_23;refine AU ?_;refine aG 30 rfl (fun h7_30=>?_) (fun h7_30=>?_)
  ·
   have F:=aI h1_7 (aI h7_23 h7_30);refine AU ?_;refine aG 33 rfl (fun h7_33=>?_) (fun h7_33=>?_)
   · have F:=aI h1_7 (aI h7_23 (aI h7_30 h7_33));refine AU ?_;refine T4 ?_;exact key true _ _ _ (by simp only[okc,alZ,puZ,h1_7,h7_23,h7_30,h7_33,D4,C9,B1,B7,F0,B4,A9,E1,E3,F1]) (fF)
   have F:=aI h1_7 (aI h7_23 (aI h7_30 h7_33));refine AU ?_;refine aG 38 rfl (fun h7_38=>?_) (fun h7_38=>?_)
   ·
    have F:=aI h1_7 (aI h7_23 (aI h7_30 (aI h7_33 h7_38)));refine AU ?_;refine aG 41 rfl (fun h7_41=>?_) (fun h7_41=>?_)
    · have F:=aI h1_7 (aI h7_23 (aI h7_30 (aI h7_33 (aI h7_38 h7_41))));refine AU ?_;refine T4 ?_;exact key true _ _ _ (by simp only[okc,alZ,puZ,h1_7,h7_23,h7_30,h7_33,h7_38,h7_41,D4,C9,B1,B7,F0,B4,A9,E1,E3,F1]) (fF)
    have F:=aI h1_7 (aI h7_23 (aI h7_30 (aI h7_33 (aI h7_38 h7_41))));refine AU ?_;refine aG 44 rfl (fun h7_44=>?_) (fun h7_44=>?_)
    · have F:=aI h1_7 (aI h7_23 (aI h7_30 (aI h7_33 (aI h7_38 (aI h7_41 h7_44)))));refine AU ?_;refine T4 ?_;exact key true _ _ _ (by simp only[okc,alZ,puZ,h1_7,h7_23,h7_30,h7_33,h7_38,h7_41,h7_44,D4,C9,B1,B7,F0,B4,A9,E1,E3,F1]) (fF)
    have F:=aI h1_7 (aI h7_23 (aI h7_30 (aI h7_33 (aI h7_38 (aI h7_41 h7_44)))));refine AU ?_;refine aG 48 rfl (fun h7_48=>?_) (fun h7_48=>?_)
    · simp only[h7_48];refine T4 ?_;exact key true _ _ _ (by simp only[okc,alZ,puZ,h1_7,h7_23,h7_30,h7_33,h7_38,h7_41,h7_44,h7_48,D4,C9,B1,B7,F0,B4,A9,E1,E3,F1]) (fF)
    simp only[h7_48];refine T4 ?_;exact key false _ _ _ (by simp only[okc,alZ,puZ,h1_7,h7_23,h7_30,h7_33,h7_38,h7_41,h7_44,h7_48,D4,C9,B1,B7,F0,B4,A9,E1,E3,F1]) (fF)
   have F:=aI h1_7 (aI h7_23 (aI h7_30 (aI h7_33 h7_38)));refine AU ?_;refine T4 ?_;exact key false _ _ _ (by simp only[okc,alZ,puZ,h1_7,h7_23,h7_30,h7_33,h7_38,D4,C9,B1,B7,F0,B4,A9,E1,E3,F1]) (fF)
  have F:=aI h1_7 (aI h7_23 h7_30);refine AU ?_;refine aG 38 rfl (fun h7_38=>?_) (fun h7_38=>?_)
  ·
   have F:=aI h1_7 (aI h7_23 (aI h7_30 h7_38));refine AU ?_;refine aG 41 rfl (fun h7_41=>?_) (fun h7_41=>?_)
   · have F:=aI h1_7 (aI h7_23 (aI h7_30 (aI h7_38 h7_41)));refine AU ?_;refine T4 ?_;exact key true _ _ _ (by simp only[okc,alZ,puZ,h1_7,h7_23,h7_30,h7_38,h7_41,D4,C9,B1,B7,F0,B4,A9,E1,E3,F1]) (fF)
   have F:=aI h1_7 (aI h7_23 (aI h7_30 (aI h7_38 h7_41)));refine AU ?_;refine aG 44 rfl (fun h7_44=>?_) (fun h7_44=>?_)
   · have F:=aI h1_7 (aI h7_23 (aI h7_30 (aI h7_38 (aI h7_41 h7_44))));refine AU ?_;refine T4 ?_;exact key true _ _ _ (by simp only[okc,alZ,puZ,h1_7,h7_23,h7_30,h7_38,h7_41,h7_44,D4,C9,B1,B7,F0,B4,A9,E1,E3,F1]) (fF)
   have F:=aI h1_7 (aI h7_23 (aI h7_30 (aI h7_38 (aI h7_41 h7_44))));refine AU ?_;refine aG 48 rfl (fun h7_48=>?_) (fun h7_48=>?_)
   · simp only[h7_48];refine T4 ?_;exact key true _ _ _ (by simp only[okc,alZ,puZ,h1_7,h7_23,h7_30,h7_38,h7_41,h7_44,h7_48,D4,C9,B1,B7,F0,B4,A9,E1,E3,F1]) (fF)
   simp only[h7_48];refine T4 ?_;exact key false _ _ _ (by simp only[okc,alZ,puZ,h1_7,h7_23,h7_30,h7_38,h7_41,h7_44,h7_48,D4,C9,B1,B7,F0,B4,A9,E1,E3,F1]) (fF)
  have F:=aI h1_7 (aI h7_23 (aI h7_30 h7_38));refine AU ?_;refine T4 ?_;exact key false _ _ _ (by simp only[okc,alZ,puZ,h1_7,h7_23,h7_30,h7_38,D4,C9,B1,B7,F0,B4,A9,E1,E3,F1]) (fF)
 refine bG (T3 ?_);clear hK K;refine AX (hK _ _ _ ?_);clear hK K;refine R0 ?_;refine aE (RT Tryz.results58 ?_);have hei:i=s.length:=by simp at hb;omega
 exact aK [] (.bool true) rfl (by rw[mS.2 ⟨hlen,fun j h=>h0 j (by omega) h⟩])
theorem yW (s:aH)(hl:s.length<2^63):cG Tryz.prog 36 [.str s] (fun v=>v= .bool (dX s)):=by
 refine FW Tryz.func36 ?_;refine R0 ?_;refine aC fun K hK=>?_;refine aC fun K hK=>?_;have key: ∀(b:Bool) fr ob nx,b=gU s→Fits 0 fr ob (fin [(0,.c (.str s)),(26,.c (.bool b))]) (fob []) 600→K fr ob nx:=by
  rintro b fr ob nx rfl hf;refine hK _ _ _ (bB hf ?_);clear hf hK K;refine aF (b:=gU s) rfl (fun hb=>?_) (fun hb=>?_)
  · refine R0 ?_;refine aE (RT Tryz.results36 ?_);exact aK [] (.bool false) rfl (by rw[bC6 hb])
  refine aJ ?_;refine T0 (hK _ _ _ ?_);clear hK K;refine aC fun K hK=>?_;refine R0 ?_;refine aM ?_;have hbad:=hb;refine bN (α:={i:Nat//i≤s.length∧ ∀j (_:j<i) (h:j<s.length),(alZ s[j]||puZ s[j])=true}) (fun i=>(fin [(0,.c (.str s)),(3,.c (.int .i64 i.1))],fob [])) 100 (fun i=>s.length-i.1) ⟨0,by omega,fun j h=>by omega⟩ (fF) ?_;clear hb;rintro⟨i,hi,h0⟩;refine aC fun K hK=>?_;refine AU ?_;refine aF (b:=decide ((i:Int)<s.length)) rfl (fun hb=>?_) (fun hb=>?_)
  ·
   have hlt:i<s.length:=by simpa using hb
   have hgd:s.getD i 0=s[i]:=by simp[hlt]
   refine aJ ?_;refine T0 (hK _ _ _ ?_);clear hK K;refine aC fun K hK=>?_;refine aM ?_;refine RS ?_;iterate 4 refine S0 ?_ (e:=fun _ h_=>by simp only[sH,↓sP,sA,tyS,simprocAttr,A0,A4,hlt,hgd];exact AX h_)
   refine RE ?_;refine aC fun K hK=>?_;have key: ∀(b:Bool) fr ob nx,b=(!(alZ s[i]||puZ s[i]))→Fits 0 fr ob (fin [(0,.c (.str s)),(3,.c (.int .i64 i)),(62,.c (.bool b))]) (fob []) 600→K fr ob nx:=by
    rintro b fr ob nx rfl hf;refine hK _ _ _ (bB hf ?_);clear hf hK K;refine aF (b:=!(alZ s[i]||puZ s[i])) rfl (fun hb=>?_) (fun hb=>?_)
    · refine R0 ?_;refine aE (RT Tryz.results36 ?_);exact aK [] (.bool false) rfl (by rw[bC7 hlt (by simpa using hb)])
    refine aJ ?_;refine T0 (hK _ _ _ ?_);clear hK K;refine aL (by kernel_rfl) ?_;refine TQ (fS i) ?_;refine⟨⟨i+1,hlt,fun j hj h'=>?_⟩,fF,?_⟩
    ·
     rcases H0 j i with h1|h1
     · exact h0 j h1 h'
     have:j=i:=by omega
     subst this;rw[T8]at hb;exact hb
    show s.length-(i+1)<s.length-i;omega
   refine Rg ?_;refine AU ?_;refine aG 37 rfl (fun h7_37=>?_) (fun h7_37=>?_)
   ·
    have F:=h7_37;refine AU ?_;refine aG 40 rfl (fun h7_40=>?_) (fun h7_40=>?_)
    · have F:=aI h7_37 h7_40;refine AU ?_;refine T4 ?_;exact key false _ _ _ (by simp only[alZ,puZ,h7_37,h7_40,D4,C9,B1,B7,F0,B4,A9,E1,E3,F1,D8,D7]) (fF)
    have F:=aI h7_37 h7_40;refine AU ?_;refine aG 44 rfl (fun h7_44=>?_) (fun h7_44=>?_)
    ·
     have F:=aI h7_37 (aI h7_40 h7_44);refine AU ?_;refine aG 47 rfl (fun h7_47=>?_) (fun h7_47=>?_)
     · have F:=aI h7_37 (aI h7_40 (aI h7_44 h7_47));refine AU ?_;refine T4 ?_;exact key false _ _ _ (by simp only[alZ,puZ,h7_37,h7_40,h7_44,h7_47,D4,C9,B1,B7,F0,B4,A9,E1,E3,F1,D8,D7]) (fF)
     have F:=aI h7_37 (aI h7_40 (aI h7_44 h7_47));refine AU ?_;refine aG 52 rfl (fun h7_52=>?_) (fun h7_52=>?_)
     · have F:=aI h7_37 (aI h7_40 (aI h7_44 (aI h7_47 h7_52)));refine AU ?_;refine T4 ?_;exact key false _ _ _ (by simp only[alZ,puZ,h7_37,h7_40,h7_44,h7_47,h7_52,D4,C9,B1,B7,F0,B4,A9,E1,E3,F1,D8,D7]) (fF)
     have F:=aI h7_37 (aI h7_40 (aI h7_44 (aI h7_47 h7_52)));refine AU ?_;refine aG 56 rfl (fun h7_56=>?_) (fun h7_56=>?_)
     · have F:=aI h7_37 (aI h7_40 (aI h7_44 (aI h7_47 (aI h7_52 h7_56))));refine AU ?_;refine T4 ?_;exact key false _ _ _ (by simp only[alZ,puZ,h7_37,h7_40,h7_44,h7_47,h7_52,h7_56,D4,C9,B1,B7,F0,B4,A9,E1,E3,F1,D8,D7]) (fF)
     have F:=aI h7_37 (aI h7_40 (aI h7_44 (aI h7_47 (aI h7_52 h7_56))));refine AU ?_;refine aG 60 rfl (fun h7_60=>?_) (fun h7_60=>?_)
     · simp only[h7_60];refine T4 ?_;exact key false _ _ _ (by simp only[alZ,puZ,h7_37,h7_40,h7_44,h7_47,h7_52,h7_56,h7_60,D4,C9,B1,B7,F0,B4,A9,E1,E3,F1,D8,D7]) (fF)
     simp only[h7_60];refine T4 ?_;exact key true _ _ _ (by simp only[alZ,puZ,h7_37,h7_40,h7_44,h7_47,h7_52,h7_56,h7_60,D4,C9,B1,B7,F0,B4,A9,E1,E3,F1,D8,D7]) (fF)
    have F:=aI h7_37 (aI h7_40 h7_44);refine AU ?_;refine aG 52 rfl (fun h7_52=>?_) (fun h7_52=>?_)
    · have F:=aI h7_37 (aI h7_40 (aI h7_44 h7_52));refine AU ?_;refine T4 ?_;exact key false _ _ _ (by simp only[alZ,puZ,h7_37,h7_40,h7_44,h7_52,D4,C9,B1,B7,F0,B4,A9,E1,E3,F1,D8,D7]) (fF)
    have F:=aI h7_37 (aI h7_40 (aI h7_44 h7_52));refine AU ?_;refine aG 56 rfl (fun h7_56=>?_) (fun h7_56=>?_)
    · have F:=aI h7_37 (aI h7_40 (aI h7_44 (aI h7_52 h7_56)));refine AU ?_;refine T4 ?_;exact key false _ _ _ (by simp only[alZ,puZ,h7_37,h7_40,h7_44,h7_52,h7_56,D4,C9,B1,B7,F0,B4,A9,E1,E3,F1,D8,D7]) (fF)
    have F:=aI h7_37 (aI h7_40 (aI h7_44 (aI h7_52 h7_56)));refine AU ?_;refine aG 60 rfl (fun h7_60=>?_) (fun h7_60=>?_)
    · simp only[h7_60];refine T4 ?_;exact key false _ _ _ (by simp only[alZ,puZ,h7_37,h7_40,h7_44,h7_52,h7_56,h7_60,D4,C9,B1,B7,F0,B4,A9,E1,E3,F1,D8,D7]) (fF)
    simp only[h7_60];refine T4 ?_;exact key true _ _ _ (by simp only[alZ,puZ,h7_37,h7_40,h7_44,h7_52,h7_56,h7_60,D4,C9,B1,B7,F0,B4,A9,E1,E3,F1,D8,D7]) (fF)
   have F:=h7_37;refine AU ?_;refine aG 44 rfl (fun h7_44=>?_) (fun h7_44=>?_)
   ·
    have F:=aI h7_37 h7_44;refine AU ?_;refine aG 47 rfl (fun h7_47=>?_) (fun h7_47=>?_)
    · have F:=aI h7_37 (aI h7_44 h7_47);refine AU ?_;refine T4 ?_;exact key false _ _ _ (by simp only[alZ,puZ,h7_37,h7_44,h7_47,D4,C9,B1,B7,F0,B4,A9,E1,E3,F1,D8,D7]) (fF)
    have F:=aI h7_37 (aI h7_44 h7_47);refine AU ?_;refine aG 52 rfl (fun h7_52=>?_) (fun h7_52=>?_)
    · have F:=aI h7_37 (aI h7_44 (aI h7_47 h7_52));refine AU ?_;refine T4 ?_;exact key false _ _ _ (by simp only[alZ,puZ,h7_37,h7_44,h7_47,h7_52,D4,C9,B1,B7,F0,B4,A9,E1,E3,F1,D8,D7]) (fF)
    have F:=aI h7_37 (aI h7_44 (aI h7_47 h7_52));refine AU ?_;refine aG 56 rfl (fun h7_56=>?_) (fun h7_56=>?_)
    · have F:=aI h7_37 (aI h7_44 (aI h7_47 (aI h7_52 h7_56)));refine AU ?_;refine T4 ?_;exact key false _ _ _ (by simp only[alZ,puZ,h7_37,h7_44,h7_47,h7_52,h7_56,D4,C9,B1,B7,F0,B4,A9,E1,E3,F1,D8,D7]) (fF)
    have F:=aI h7_37 (aI h7_44 (aI h7_47 (aI h7_52 h7_56)));refine AU ?_;refine aG 60 rfl (fun h7_60=>?_) (fun h7_60=>?_)
    · simp only[h7_60];refine T4 ?_;exact key false _ _ _ (by simp only[alZ,puZ,h7_37,h7_44,h7_47,h7_52,h7_56,h7_60,D4,C9,B1,B7,F0,B4,A9,E1,E3,F1,D8,D7]) (fF)
    simp only[h7_60];refine T4 ?_;exact key true _ _ _ (by simp only[alZ,puZ,h7_37,h7_44,h7_47,h7_52,h7_56,h7_60,D4,C9,B1,B7,F0,B4,A9,E1,E3,F1,D8,D7]) (fF)
   have F:=aI h7_37 h7_44;refine AU ?_;refine aG 52 rfl (fun h7_52=>?_) (fun h7_52=>?_)
   · have F:=aI h7_37 (aI h7_44 h7_52);refine AU ?_;refine T4 ?_;exact key false _ _ _ (by simp only[alZ,puZ,h7_37,h7_44,h7_52,D4,C9,B1,B7,F0,B4,A9,E1,E3,F1,D8,D7]) (fF)
   have F:=aI h7_37 (aI h7_44 h7_52);refine AU ?_;refine aG 56 rfl (fun h7_56=>?_) (fun h7_56=>?_)
   · have F:=aI h7_37 (aI h7_44 (aI h7_52 h7_56));refine AU ?_;refine T4 ?_;exact key false _ _ _ (by simp only[alZ,puZ,h7_37,h7_44,h7_52,h7_56,D4,C9,B1,B7,F0,B4,A9,E1,E3,F1,D8,D7]) (fF)
   have F:=aI h7_37 (aI h7_44 (aI h7_52 h7_56));refine AU ?_;refine aG 60 rfl (fun h7_60=>?_) (fun h7_60=>?_)
   · simp only[h7_60];refine T4 ?_;exact key false _ _ _ (by simp only[alZ,puZ,h7_37,h7_44,h7_52,h7_56,h7_60,D4,C9,B1,B7,F0,B4,A9,E1,E3,F1,D8,D7]) (fF)
   simp only[h7_60];refine T4 ?_;exact key true _ _ _ (by simp only[alZ,puZ,h7_37,h7_44,h7_52,h7_56,h7_60,D4,C9,B1,B7,F0,B4,A9,E1,E3,F1,D8,D7]) (fF)
  refine bG (T3 ?_);clear hK K;refine AX (hK _ _ _ ?_);clear hK K;refine R0 ?_;refine aE (RT Tryz.results36 ?_);have hei:i=s.length:=by simp at hb;omega
  exact aK [] (.bool true) rfl (by rw[bP2 hbad fun j h=>h0 j (by omega) h])
 refine Rg ?_;have F:=@nR;refine AU ?_;refine aG 6 rfl (fun h1_6=>?_) (fun h1_6=>?_)
 · have F:=aI @nR h1_6;refine AU ?_;refine T4 ?_;exact key true _ _ _ (by simp only[gU,gb,h1_6,D4,C9,B1,B7,F0,B4,A9,E1,E3,F1]) (fF)
 have F:=aI @nR h1_6;refine AU ?_;refine aG 10 rfl (fun h1_10=>?_) (fun h1_10=>?_)
 · have F:=aI @nR (aI h1_6 h1_10);refine AU ?_;refine T4 ?_;exact key true _ _ _ (by simp only[gU,gb,h1_6,h1_10,D4,C9,B1,B7,F0,B4,A9,E1,E3,F1]) (fF)
 have F:=aI @nR (aI h1_6 h1_10);refine AU ?_;refine aG 15 rfl (fun h1_15=>?_) (fun h1_15=>?_)
 · have F:=aI @nR (aI h1_6 (aI h1_10 h1_15));refine AU ?_;refine T4 ?_;exact key true _ _ _ (by simp only[gU,gb,h1_6,h1_10,h1_15,D4,C9,B1,B7,F0,B4,A9,E1,E3,F1]) (fF)
 have F:=aI @nR (aI h1_6 (aI h1_10 h1_15));refine AU ?_;refine aG 20 rfl (fun h1_20=>?_) (fun h1_20=>?_)
 · have F:=aI @nR (aI h1_6 (aI h1_10 (aI h1_15 h1_20)));refine AU ?_;refine T4 ?_;exact key true _ _ _ (by simp only[gU,gb,h1_6,h1_10,h1_15,h1_20,D4,C9,B1,B7,F0,B4,A9,E1,E3,F1]) (fF)
 have F:=aI @nR (aI h1_6 (aI h1_10 (aI h1_15 h1_20)));refine AU ?_;refine aG 25 rfl (fun h1_25=>?_) (fun h1_25=>?_)
 · simp only[h1_25];refine T4 ?_;exact key true _ _ _ (by simp only[gU,gb,h1_6,h1_10,h1_15,h1_20,h1_25,D4,C9,B1,B7,F0,B4,A9,E1,E3,F1]) (fF)
 simp only[h1_25];refine T4 ?_;exact key false _ _ _ (by simp only[gU,gb,h1_6,h1_10,h1_15,h1_20,h1_25,D4,C9,B1,B7,F0,B4,A9,E1,E3,F1]) (fF)
theorem tH (c:UInt8):cG Tryz.prog 75 [.int .u8 c.toNat] (fun v=>v= .bool (cY c)):=by
 refine FW Tryz.func75 ?_;refine AU ?_;refine aG 4 rfl (fun h1_4=>?_) (fun h1_4=>?_)
 ·
  have F:=h1_4;refine AU ?_;refine aG 7 rfl (fun h1_7=>?_) (fun h1_7=>?_)
  · have F:=aI h1_4 h1_7;refine AU ?_;refine aE (RT Tryz.results75 ?_);refine aK [] (.bool _) rfl ?_;simp[h1_4,h1_7,cY];all_goals first|rfl|simp_all|omega
  have F:=aI h1_4 h1_7;refine AU ?_;refine aE (RT Tryz.results75 ?_);refine aK [] (.bool _) rfl ?_;simp[h1_4,h1_7,cY];all_goals first|rfl|simp_all|omega
 have F:=h1_4;refine AU ?_;refine aE (RT Tryz.results75 ?_);refine aK [] (.bool _) rfl ?_;simp[h1_4,cY];all_goals first|rfl|simp_all|omega
theorem vA (c:UInt8):cG Tryz.prog 43 [.int .u8 c.toNat] (fun v=>v= .bool (cY c)):=by
 refine FW Tryz.func43 ?_;refine AU ?_;refine aG 4 rfl (fun h1_4=>?_) (fun h1_4=>?_)
 ·
  have F:=h1_4;refine AU ?_;refine aG 7 rfl (fun h1_7=>?_) (fun h1_7=>?_)
  · have F:=aI h1_4 h1_7;refine AU ?_;refine aE (RT Tryz.results43 ?_);refine aK [] (.bool _) rfl ?_;simp[h1_4,h1_7,cY];all_goals first|rfl|simp_all|omega
  have F:=aI h1_4 h1_7;refine AU ?_;refine aE (RT Tryz.results43 ?_);refine aK [] (.bool _) rfl ?_;simp[h1_4,h1_7,cY];all_goals first|rfl|simp_all|omega
 have F:=h1_4;refine AU ?_;refine aE (RT Tryz.results43 ?_);refine aK [] (.bool _) rfl ?_;simp[h1_4,cY];all_goals first|rfl|simp_all|omega
theorem bI3 (w:aH)(hl:w.length<2^40):cG Tryz.prog 81 [.str w] (fun v=>v= .int .i64 (sizeW w:Nat)):=by
 refine FW Tryz.func81 ?_;refine R0 ?_;refine R0 ?_;refine aC fun K hK=>?_;refine R0 ?_;refine aM ?_;refine bN (α:={i:Nat//i≤w.length}) (fun i=>(fin [(0,.c (.str w)),(3,.c (.int .i64 (dH (w.take i.1)).length)),(4,.c (.int .i64 i.1))],fob [])) 100 (fun i=>w.length-i.1) ⟨0,by omega⟩ (fF) ?_;rintro⟨i,hi⟩;have hle:=mG w i;have hle3:=sX w;refine aC fun K hK=>?_;refine AU ?_;refine aF (b:=decide ((i:Int)<w.length)) rfl (fun hb=>?_) (fun hb=>?_)
 ·
  have hlt:i<w.length:=by simpa using hb
  have hgd:w.getD i 0=w[i]:=by simp[hlt]
  have hs:=rM hlt;refine aJ ?_;refine T0 (hK _ _ _ ?_);clear hK K;refine aC fun K hK=>?_;refine aM ?_;have F:=A8 _ (show-9223372036854775808≤((dH (w.take i)).length:Int)+1∧((dH (w.take i)).length:Int)+1≤9223372036854775807 by omega);refine RF ?_;refine aC fun K hK=>Rg ?_;iterate 3 refine S0 ?_ (e:=fun _ h_=>by simp only[sH,↓sP,sA,tyS,simprocAttr,A0,A4,hlt,hgd];exact AX h_)
  refine HS rfl rfl fun K' hK'=>?_;simp only[sH,↓sP,sA,tyS,simprocAttr,A0,A4,hlt,hgd];refine C1 (tH w[i]) ?_;rintro u rfl;refine AX (hK' _ _ ?_);clear hK' K';refine S0 ?_ (e:=fun _ h_=>by simp only[sH,↓sP,sA,tyS,simprocAttr,A0,A4,hlt,hgd];exact AX h_);refine T2 (hK _ _ _ ?_);clear hK K;refine aF (b:=!cY w[i]) rfl (fun hb=>?_) (fun hb=>?_)
  ·
   refine aL (by kernel_rfl) ?_;refine TQ (A8 _ (show-9223372036854775808≤((dH (w.take i)).length:Int)+1+2∧((dH (w.take i)).length:Int)+1+2≤9223372036854775807 by omega)) ?_;refine AX (hK _ _ _ ?_);clear hK K;refine aL (by kernel_rfl) ?_;refine TQ (fS i) ?_;have hp:cY w[i]=false:=by simpa using hb
   have he:((dH (w.take i)).length:Int)+1+2=((dH (w.take (i+1))).length:Int):=by
    rw[hs,A3,kK,A7 (by rw[hp];simp)];simp;omega
   simp only[he];refine⟨⟨i+1,hlt⟩,fF,?_⟩;show w.length-(i+1)<w.length-i;omega
  refine aJ ?_;refine T0 (hK _ _ _ ?_);clear hK K;refine aL (by kernel_rfl) ?_;refine TQ (fS i) ?_;have hp:cY w[i]=true:=by simpa using hb
  have he:((dH (w.take i)).length:Int)+1=((dH (w.take (i+1))).length:Int):=by
   rw[hs,A3,kK,B6 hp];simp
  simp only[he];refine⟨⟨i+1,hlt⟩,fF,?_⟩;show w.length-(i+1)<w.length-i;omega
 refine bG (T3 ?_);clear hK K;refine AX (hK _ _ _ ?_);clear hK K;have F:=@dB3;refine RF ?_;refine aE (RT Tryz.results81 ?_);have hei:i=w.length:=by simp at hb;omega
 subst hei;exact aK [] (.int .i64 (sizeW w:Nat)) (by rw[E2];rfl) rfl
theorem bI4 (w:aH)(hl:w.length<2^40):cG Tryz.prog 82 [.str w] (fun v=>v= .str (gQ w)):=by
 refine FW Tryz.func82 ?_;refine R0 ?_;refine aC fun K hK=>?_;refine R0 ?_;refine aF (b:=w==[]) rfl (fun hb=>?_) (fun hb=>?_)
 · refine R0 ?_;refine aE (RT Tryz.results82 ?_);exact aK [] (.str [126]) rfl (by rw[gQ,B6 (by simpa using hb)])
 refine aJ ?_;refine T0 (hK _ _ _ ?_);clear hK K;have hne:w≠[]:=by simpa using hb
 have hz:(sizeW w:Int)≤140737488355328:=by have:=jU w;omega
 clear hb;refine RS ?_;have F:=aI @A0 (aI hz @Int.mul_one);refine SF ?_;refine SCF (bI3 w hl) ?_;iterate 2 refine SF ?_
 refine RE ?_;refine aC fun K hK=>?_;refine R0 ?_;refine aM ?_;refine bN (α:={i:Nat//i≤w.length}) (fun i=>(fin [(0,.c (.str w)),(3,.own 20 (dH (w.take i.1)).length),(4,.c (.int .i64 i.1))],fob [(20,.row 5 1 ((dH (w.take i.1)).map dG))])) 100 (fun i=>w.length-i.1) ⟨0,by omega⟩ (fF) ?_;rintro⟨i,hi⟩;have hle:=mG w i;have hle3:=sX w;refine aC fun K hK=>?_;refine AU ?_;refine aF (b:=decide ((i:Int)<w.length)) rfl (fun hb=>?_) (fun hb=>?_)
 ·
  have hlt:i<w.length:=by simpa using hb
  have hgd:w.getD i 0=w[i]:=by simp[hlt]
  have hs:=rM hlt;refine aJ ?_;refine T0 (hK _ _ _ ?_);clear hK K;refine aC fun K hK=>?_;refine aM ?_;refine aC fun K hK=>Rg ?_;iterate 3 refine S0 ?_ (e:=fun _ h_=>by simp only[sH,↓sP,sA,tyS,simprocAttr,A0,A4,hlt,hgd];exact AX h_)
  refine HS rfl rfl fun K' hK'=>?_;simp only[sH,↓sP,sA,tyS,simprocAttr,A0,A4,hlt,hgd];refine C1 (tH w[i]) ?_;rintro u rfl;refine AX (hK' _ _ ?_);clear hK' K';refine T2 (hK _ _ _ ?_);clear hK K;refine aF (b:=cY w[i]) rfl (fun hb=>?_) (fun hb=>?_)
  ·
   refine Rg ?_;iterate 7 refine S0 ?_ (e:=fun _ h_=>by simp only[sH,↓sP,sA,tyS,simprocAttr,A0,A4,hlt,hgd,A3,A2];exact AX h_)
   refine T2 (hK _ _ _ ?_);clear hK K;refine aL (by kernel_rfl) ?_;refine TQ (fS i) ?_;refine⟨⟨i+1,hlt⟩,aP (by omega) ?_ ?_,?_⟩
   · rw[hs,kK,B6 hb];simp
   · rw[hs,kK,B6 hb,C5];exact⟨rfl,by omega,trivial,trivial⟩
   show w.length-(i+1)<w.length-i;omega
  have h16:((w[i].toNat/16:Nat):Int)<16:=by have:=w[i].toNat_lt;omega
  have h15:((w[i].toNat%16:Nat):Int)<16:=by omega
  refine DW [(0,[],[]),(1,[],[]),(2,[],[]),(3,[],[]),(4,[],[]),(5,[],[]),(6,[],[]),(7,[],[]),(8,[],[]),(9,[],[]),(10,[],[]),(11,[],[]),(12,[],[]),(13,[],[])] [0,0,0,6,14,30,0,0,192,448,960,2046,4095,8191] ?_;iterate 14 refine W0 ?_ (e:=fun _ h_=>by simp only[sH,↓sP,sA,tyS,simprocAttr,A0,A4,hlt,hgd,A3,A2,cX5,cP5,h16,h15];exact AX h_)
  refine T2 (hK _ _ _ ?_);clear hK K;refine aL (by kernel_rfl) ?_;refine TQ (fS i) ?_;refine⟨⟨i+1,hlt⟩,aP (by omega) ?_ ?_,?_⟩
  · rw[hs,kK,A7 (by rw[hb];simp)];simp
  · rw[hs,kK,A7 (by rw[hb];simp),C5];exact⟨rfl,by omega,trivial,trivial⟩
  show w.length-(i+1)<w.length-i;omega
 refine bG (T3 ?_);clear hK K;refine AX (hK _ _ _ ?_);clear hK K;refine cM [20] (bB (fr2:=fin [(3,.c (.slc ((dH (w.take i)).map dG)))]) (ob2:=fob []) (nx2:=200) (aP (by omega) (by simp[dE]) (by simp)) ?_);have F:=@bytesC_map;refine RF ?_;refine aE (RT Tryz.results82 ?_);have hei:i=w.length:=by simp at hb;omega
 subst hei;exact aK [] (.str (dH w)) (by rw[E2];rfl) (by rw[gQ,A7 hne])
theorem aU0 (l:List aH)(hl:l.length<2^40):cG Tryz.prog 48 [.slc (l.map .str)] (fun v=>v= .int .i64 (iO l)):=by
 refine FW Tryz.func48 ?_;refine R0 ?_;refine aC fun K hK=>?_;refine aM ?_;refine AU ?_;refine aF (b:=(l.length:Int)==0) rfl (fun hb=>?_) (fun hb=>?_)
 · refine R0 ?_;refine aE (RT Tryz.results48 ?_);exact aK [] (.int .i64 1) rfl (by rw[iO,B6 (by simp at hb;simp[hb])])
 have hn0:l.length≠0:=by simp at hb;simp[hb]
 clear hb;refine AU ?_;refine aF (b:=decide ((120:Int)<l.length)) rfl (fun hb=>?_) (fun hb=>?_)
 · refine R0 ?_;refine aE (RT Tryz.results48 ?_);exact aK [] (.int .i64 3) rfl (by rw[iO,A7 hn0,B6 (by simp at hb;omega)])
 refine aJ ?_;refine T0 (hK _ _ _ ?_);clear hK K;refine aC fun K hK=>?_;have hn1:l.length≤120:=by simp at hb;omega
 clear hb;refine R0 ?_;refine aM ?_;refine bN (α:={i:Nat//i≤l.length∧ ∀x∈l.take i,decide (32768<x.length)=false}) (fun i=>(fin [(13,.c (.slc (l.map .str))),(14,.c (.int .i64 l.length)),(15,.c (.int .i64 i.1))],fob [])) 100 (fun i=>l.length-i.1) ⟨0,by omega,by simp⟩ (fF) ?_;rintro⟨i,hi,h0⟩;refine R0 ?_;refine aC fun K hK=>?_;refine aF (b:=decide ((i:Int)<l.length)) rfl (fun hb=>?_) (fun hb=>?_)
 ·
  have hlt:i<l.length:=by simpa using hb
  clear hb;refine aJ ?_;refine T0 (hK _ _ _ ?_);clear hK K;refine aC fun K hK=>?_;refine aM ?_;have F:=aI @A0 (aI @A4 (aI hlt (nM hlt)));refine AU ?_;refine aF (b:=decide ((32768:Int)<l[i].length)) rfl (fun hb=>?_) (fun hb=>?_)
  · refine R0 ?_;refine aE (RT Tryz.results48 ?_);exact aK [] (.int .i64 3) rfl (by rw[iO,A7 hn0,A7 (by omega),B6];simp only[S4,B9];exact⟨_,C0 hlt,by simp at hb;omega⟩)
  refine aJ ?_;refine T0 (hK _ _ _ ?_);clear hK K;refine aL (by kernel_rfl) ?_;refine TQ (fS i) ?_;have hb2:decide (32768<l[i].length)=false:=by simp at hb⊢;omega
  refine⟨⟨i+1,hlt,bP0 (p:=fun x=>decide (32768<x.length)) hlt hb2 h0⟩,fF,?_⟩;show l.length-(i+1)<l.length-i;omega
 refine bG (T3 ?_);clear hK K;refine AX (hK _ _ _ ?_);clear hK K;refine R0 ?_;refine aE (RT Tryz.results48 ?_);have hei:i=l.length:=by simp at hb;omega
 subst hei;rw[E2]at h0;exact aK [] (.int .i64 0) rfl (by rw[iO,A7 hn0,A7 (by omega),A7];simp only[S4,not_exists,not_and];intro x hx;simp[h0 x hx])
theorem cS8 (ls:List (List aH))(h0:ls.length<2^40)(h1: ∀l∈ls,l.length<2^40):gB Tryz.prog 54 [.slc (ls.map fun l=> .slc (l.map .str))] (fun u v=>u= .slc ((lK ls).map dG)∧v= .int .i64 (gL ls)):=by
 refine FW Tryz.func54 ?_;refine R0 ?_;refine aC fun K hK=>?_;refine R0 ?_;refine aF (b:=decide ((1000:Int)<ls.length)) rfl (fun hb=>?_) (fun hb=>?_)
 · refine R0 ?_;refine aE (RT Tryz.results54 ?_);have hE:=qC (ls:=ls) (by simp at hb;omega);refine aO [] (.slc []) (.int .i64 3) ?_ ⟨by rw[jV (by rw[hE];decide)];rfl,by rw[hE]⟩;simp
 refine aJ ?_;refine T0 (hK _ _ _ ?_);clear hK K;refine aC fun K hK=>?_;have hn:ls.length≤1000:=by simp at hb;omega
 clear hb;refine R0 ?_;refine aM ?_;refine bN (α:={i:Nat//i≤ls.length∧ ∀x∈ls.take i,okL x=true}) (fun i=>(fin [(0,.c (.slc (ls.map fun l=> .slc (l.map .str)))),(20,.c (.slc (ls.map fun l=> .slc (l.map .str)))),(21,.c (.int .i64 ls.length)),(22,.c (.int .i64 i.1))],fob [])) 100 (fun i=>ls.length-i.1) ⟨0,by omega,by simp⟩ (fF) ?_;rintro⟨i,hi,hk⟩;refine R0 ?_;refine aC fun K hK=>?_;refine aF (b:=decide ((i:Int)<ls.length)) rfl (fun hb=>?_) (fun hb=>?_)
 ·
  have hlt:i<ls.length:=by simpa using hb
  clear hb;have hl1:=h1 ls[i] (C0 hlt);refine aJ ?_;refine T0 (hK _ _ _ ?_);clear hK K;refine aC fun K hK=>?_;refine aM ?_;have F:=aI @A0 (aI @A4 (aI hlt (nM hlt)));refine AU ?_;refine SC (aU0 ls[i] hl1) ?_;refine AU ?_;refine aF (b:=iO ls[i] !=0) rfl (fun hb=>?_) (fun hb=>?_)
  · refine R0 ?_;refine aE (RT Tryz.results54 ?_);have hE:=iA hn hlt hk (by simpa[okL]using hb);refine aO [] (.slc []) (.int .i64 (iO ls[i])) ?_ ⟨by rw[jV (by rw[hE];simpa using hb)];rfl,by rw[hE]⟩;simp
  refine aJ ?_;refine T0 (hK _ _ _ ?_);clear hK K;refine aL (by kernel_rfl) ?_;refine TQ (fS i) ?_;refine⟨⟨i+1,hlt,?_⟩,fF,?_⟩
  ·
   intro x hx;rw[B3 hlt,F4,G0]at hx;rcases hx with hx|rfl
   · exact hk x hx
   simpa[okL]using hb
  show ls.length-(i+1)<ls.length-i;omega
 have hei:i=ls.length:=by simp at hb;omega
 subst hei;clear hb;rw[E2]at hk;have hne: ∀l∈ls,l≠[]:=fun l hl=>((gR l).1 (hk l hl)).1;have hsd:=aK8 hk;have hdl:=oR hne;have hE:=nK hn hk;have hst: ∀j,sumD (ls.take j)≤sumD ls:=fun j=>aK7 ls j;have hdt: ∀j,(eO (ls.take j)).length≤sumD ls:=fun j=>by rw[oR fun l hl=>hne l (H5 hl)];exact hst j
 refine bG (T3 ?_);clear hK K;refine AX (hK _ _ _ ?_);clear hK K;refine R0 ?_;refine aC fun K hK=>?_;refine R0 ?_;refine aM ?_;refine bN (α:={i:Nat//i≤ls.length}) (fun i=>(fin [(0,.c (.slc (ls.map fun l=> .slc (l.map .str)))),(7,.c (.int .i64 (sumD (ls.take i.1):Nat))),(32,.c (.slc (ls.map fun l=> .slc (l.map .str)))),(33,.c (.int .i64 ls.length)),(34,.c (.int .i64 i.1))],fob [])) 200 (fun i=>ls.length-i.1) ⟨0,by omega⟩ (fF) ?_;rintro⟨i,hi⟩;refine R0 ?_;refine aC fun K hK=>?_;refine aF (b:=decide ((i:Int)<ls.length)) rfl (fun hb=>?_) (fun hb=>?_)
 ·
  have hlt:i<ls.length:=by simpa using hb
  clear hb;have hst1:=bO2 hlt;have hst2:=hst (i+1);obtain⟨l,hl⟩: ∃l,l=ls[i]:=⟨_,rfl⟩;obtain⟨hl0,hl1,hl2⟩:=(gR l).1 (hk l (by rw[hl];exact C0 hlt));have hln:nth (ls.map fun l=>CV.slc (l.map .str)) i= .slc (l.map .str):=by rw[aV hlt,hl]
  rw[←hl]at hst1;refine aJ ?_;refine T0 (hK _ _ _ ?_);clear hK K;refine aC fun K hK=>?_;refine aM ?_;have F:=aI @A0 (aI @A4 (aI hlt hln));refine AU ?_;refine aM ?_;refine bN (α:={i:Nat//i≤l.length}) (fun k=>(fin [(0,.c (.slc (ls.map fun l=> .slc (l.map .str)))),(7,.c (.int .i64 (sumD (ls.take i)+jF (l.take k.1):Nat))),(32,.c (.slc (ls.map fun l=> .slc (l.map .str)))),(33,.c (.int .i64 ls.length)),(34,.c (.int .i64 i)),(38,.c (.slc (l.map .str))),(39,.c (.int .i64 l.length)),(40,.c (.int .i64 k.1))],fob [])) 300 (fun k=>l.length-k.1) ⟨0,by omega⟩ (fF) ?_;rintro⟨k,hk'⟩;refine R0 ?_;refine aC fun K hK=>?_;refine aF (b:=decide ((k:Int)<l.length)) rfl (fun hb=>?_) (fun hb=>?_)
  ·
   have hlk:k<l.length:=by simpa using hb
   clear hb;have hlt1:=bO1 hlk;have hlt2:=sY l (k+1);have hw2:=hl2 l[k] (C0 hlk);refine aJ ?_;refine T0 (hK _ _ _ ?_);clear hK K;refine aC fun K hK=>?_;refine aM ?_;have F:=aI @A0 (aI @A4 (aI hlk (nM hlk)));refine RF ?_;refine Rg ?_;have F:=aI (A8 _ (show-9223372036854775808≤((sizeW l[k]:Nat):Int)+1∧((sizeW l[k]:Nat):Int)+1≤9223372036854775807 by omega)) (A8 _ (show-9223372036854775808≤((sumD (ls.take i)+jF (l.take k):Nat):Int)+(((sizeW l[k]:Nat):Int)+1)∧((sumD (ls.take i)+jF (l.take k):Nat):Int)+(((sizeW l[k]:Nat):Int)+1)≤9223372036854775807 by omega));refine AU ?_;refine SCF (bI3 l[k] (by omega)) ?_;refine AU ?_;refine T2 (hK _ _ _ ?_);clear hK K;refine aL (by kernel_rfl) ?_;refine TQ (fS k) ?_;have he:((sumD (ls.take i)+jF (l.take k):Nat):Int)+(((sizeW l[k]:Nat):Int)+1)=((sumD (ls.take i)+jF (l.take (k+1)):Nat):Int):=by omega
   simp only[he];refine⟨⟨k+1,hlk⟩,fF,?_⟩;show l.length-(k+1)<l.length-k;omega
  have hek:k=l.length:=by simp at hb;omega
  subst hek;clear hb;refine bG (T3 ?_);clear hK K;refine AX (hK _ _ _ ?_);clear hK K;refine aL (by kernel_rfl) ?_;refine TQ (fS i) ?_;have he:((sumD (ls.take i)+jF (l.take l.length):Nat):Int)=((sumD (ls.take (i+1)):Nat):Int):=by rw[E2];omega
  simp only[he];refine⟨⟨i+1,hlt⟩,fF,?_⟩;show ls.length-(i+1)<ls.length-i;omega
 have hei:i=ls.length:=by simp at hb;omega
 subst hei;clear hb;refine bG (T3 ?_);clear hK K;refine AX (hK _ _ _ ?_);clear hK K;refine aC fun K hK=>?_;have F:=@E2.{0};refine RF ?_;refine aF (b:=decide ((262144:Int)<(sumD ls:Nat))) rfl (fun hb=>?_) (fun hb=>?_)
 · refine R0 ?_;refine aE (RT Tryz.results54 ?_);rw[B6 (by rw[hdl];simp at hb;omega)]at hE;refine aO [] (.slc []) (.int .i64 3) ?_ ⟨by rw[jV (by rw[hE];decide)];rfl,by rw[hE]⟩;simp
 refine aJ ?_;refine T0 (hK _ _ _ ?_);clear hK K;have hle:sumD ls≤262144:=by simp at hb;omega
 have hz:((sumD ls:Nat):Int)≤140737488355328:=by omega
 clear hb;rw[A7 (by rw[hdl];omega)]at hE;have hO:=qD hE;have F:=aI @A0 (aI hz (aI @Int.mul_one @E2.{0}));refine RF ?_;refine aC fun K hK=>?_;refine R0 ?_;refine aM ?_;refine bN (α:={i:Nat//i≤ls.length}) (fun i=>(fin [(12,.own 216 (eO (ls.take i.1)).length),(55,.c (.slc (ls.map fun l=> .slc (l.map .str)))),(56,.c (.int .i64 ls.length)),(57,.c (.int .i64 i.1))],fob [(216,.row 5 1 ((eO (ls.take i.1)).map dG))])) 400 (fun i=>ls.length-i.1) ⟨0,by omega⟩ (fF) ?_;rintro⟨i,hi⟩;refine R0 ?_;refine aC fun K hK=>?_;refine aF (b:=decide ((i:Int)<ls.length)) rfl (fun hb=>?_) (fun hb=>?_)
 ·
  have hlt:i<ls.length:=by simpa using hb
  clear hb;have hdt1:=uS hlt;have hdt0:=hdt i;obtain⟨l,hl⟩: ∃l,l=ls[i]:=⟨_,rfl⟩;have hok:=hk l (by rw[hl];exact C0 hlt);have hsl:=bH2 hok;obtain⟨hl0,hl1,hl2⟩:=(gR l).1 hok;have hln:nth (ls.map fun l=>CV.slc (l.map .str)) i= .slc (l.map .str):=by rw[aV hlt,hl]
  rw[←hl]at hdt1;refine aJ ?_;refine T0 (hK _ _ _ ?_);clear hK K;refine aC fun K hK=>?_;refine aM ?_;have F:=aI @A0 (aI @A4 (aI hlt hln));refine RF ?_;refine aC fun K hK=>?_;refine R0 ?_;refine aM ?_;refine bN (α:={i:Nat//i≤l.length}) (fun k=>(fin [(12,.own 216 (eO (ls.take i)++fR (l.take k.1)).length),(55,.c (.slc (ls.map fun l=> .slc (l.map .str)))),(56,.c (.int .i64 ls.length)),(57,.c (.int .i64 i)),(61,.c (.slc (l.map .str))),(62,.c (.int .i64 l.length)),(63,.c (.int .i64 k.1))],fob [(216,.row 5 1 ((eO (ls.take i)++fR (l.take k.1)).map dG))])) 500 (fun k=>l.length-k.1) ⟨0,by omega⟩ (fF) ?_;rintro⟨k,hk'⟩;have hsw:=aK6 (l.take k);have hst2:=sY l k;refine R0 ?_;refine aC fun K hK=>?_;refine aF (b:=decide ((k:Int)<l.length)) rfl (fun hb=>?_) (fun hb=>?_)
  ·
   have hlk:k<l.length:=by simpa using hb
   clear hb;have hw2:=hl2 l[k] (C0 hlk);have hel:=mR l[k];have hsz:=jU l[k];have hsp:=qA l[k];have hpe:0<(gQ l[k]).length:=by omega
   have htk:=qB hlk;have hbe:(eO (ls.take i)).length+(fR (l.take k)).length+(gQ l[k]).length≤140737488355328:=by omega
   have hbe1:(eO (ls.take i)).length+(fR (l.take k)).length+1+(gQ l[k]).length≤140737488355328:=by omega
   refine aJ ?_;refine T0 (hK _ _ _ ?_);clear hK K;refine aC fun K hK=>?_;refine aM ?_;refine RS ?_;have F:=aI @A0 (aI @A4 (aI hlk (nM hlk)));iterate 5 refine SF ?_
   refine RE ?_;refine aC fun K hK=>?_;refine R0 ?_;refine aF (b:=decide ((0:Int)<k)) rfl (fun hb=>?_) (fun hb=>?_)
   ·
    refine Rg ?_;have F:=aI @A3.{0} @A2.{0,0};refine AU ?_;refine T2 (hK _ _ _ ?_);clear hK K;refine Rg ?_;have F:=aI @A3.{0} (aI @A2.{0,0} (aI hpe (aI hbe hbe1)));refine AU ?_;refine SCF (bI4 l[k] (by omega)) ?_;refine AU ?_;refine T2 (hK _ _ _ ?_);clear hK K;refine aL (by kernel_rfl) ?_;refine TQ (fS k) ?_;have hk0:k≠0:=by simp at hb;omega
    refine⟨⟨k+1,hlk⟩,aP (by omega) ?_ ?_,?_⟩
    · rw[htk,A7 hk0];simp;omega
    · rw[htk,A7 hk0];simp only[C5,←List.append_assoc];exact⟨rfl,by omega,trivial,trivial⟩
    show l.length-(k+1)<l.length-k;omega
   refine aJ ?_;refine T0 (hK _ _ _ ?_);clear hK K;refine Rg ?_;have F:=aI @A3.{0} (aI @A2.{0,0} (aI hpe (aI hbe hbe1)));refine AU ?_;refine SCF (bI4 l[k] (by omega)) ?_;refine AU ?_;refine T2 (hK _ _ _ ?_);clear hK K;refine aL (by kernel_rfl) ?_;refine TQ (fS k) ?_;have hk0:k=0:=by simp at hb;omega
   refine⟨⟨k+1,hlk⟩,aP (by omega) ?_ ?_,?_⟩
   · rw[htk,B6 hk0];simp;omega
   · rw[htk,B6 hk0,I9];simp only[C5,←List.append_assoc];exact⟨rfl,by omega,trivial,trivial⟩
   show l.length-(k+1)<l.length-k;omega
  have hek:k=l.length:=by simp at hb;omega
  subst hek;clear hb;rw[E2]at*;refine bG (T3 ?_);clear hK K;refine AX (hK _ _ _ ?_);clear hK K;refine Rg ?_;have F:=aI @A3.{0} @A2.{0,0};refine AU ?_;refine T2 (hK _ _ _ ?_);clear hK K;refine aL (by kernel_rfl) ?_;refine TQ (fS i) ?_;refine⟨⟨i+1,hlt⟩,aP (by omega) ?_ ?_,?_⟩
  · rw[hdt1,qT];simp;omega
  · rw[hdt1,qT];simp only[C5,←List.append_assoc];exact⟨rfl,by omega,trivial,trivial⟩
  show ls.length-(i+1)<ls.length-i;omega
 refine bG (T3 ?_);clear hK K;refine AX (hK _ _ _ ?_);clear hK K;refine R0 ?_;refine aE (RT Tryz.results54 ?_);have hei:i=ls.length:=by simp at hb;omega
 subst hei;refine aO [216] (.slc ((eO ls).map dG)) (.int .i64 0) ?_ ⟨by rw[hO],by rw[hE]⟩;rw[E2];simp[E6,dE]
end Go.Proofs.YtlgckianjabghaaGreatDoor
