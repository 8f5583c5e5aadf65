/- Part of a proof: walks of functions of the program, by contracts, and the rules they use. By an AI agent. -/
import Derived.Test.YthedbjfipmkpiaaGreatDoorHdUp
set_option maxRecDepth 10000
set_option maxHeartbeats 16000000
set_option linter.unusedSimpArgs false
set_option linter.unusedVariables false
set_option linter.defProp false
namespace Go.Proofs.YthedbjfipmkpiaaGreatDoor
open Go Go.Hl Go.Pl
theorem cV6 (v:CV):nth [v] 0=v:=rfl
theorem aE6 (c:UInt8):(u8 c).denil=u8 c:=rfl
theorem denilL_u8 : ∀bs:List UInt8,CV.denilL (bs.map u8)=bs.map u8
 |[]=>rfl
 |b::bs=>by simp only[B8,CV.denilL,denilL_u8 bs];rfl
theorem cV7 (l:List UInt8)(c:UInt8):bM Tryz.prog 166 [.slc (l.map u8),u8 c] (fun v=>v= .int .i64 (gE l c)):=
 dE2 (f:=166) (fn:=Tryz.f166) Tryz.func166 (by kernel_rfl) (by kernel_rfl) (by kernel_rfl) (by kernel_rfl) l c
theorem cK5 (l:List UInt8)(c:UInt8):bM Tryz.prog 169 [.str l,u8 c] (fun v=>v= .int .i64 (gE l c)):=
 cT8 (f:=169) (fn:=Tryz.f169) Tryz.func169 (by kernel_rfl) (by kernel_rfl) (by kernel_rfl) (by kernel_rfl) l c
theorem dF6 (l:List UInt8)(c:UInt8):bM Tryz.prog 144 [.slc (l.map u8),u8 c] (fun v=>v= .int .i64 (gE l c)):=by
 refine FW Tryz.func144 ?_;have F:=rI;refine RF ?_;refine RS ?_;have F:=aI rI (aI @denilL_u8 @aE6);refine AU ?_;refine SCF (cV7 l c) ?_;refine AU ?_;refine aE ?_;simp only[eR,Tryz.results144,eF,eQ,dY,↓sP,sA,tyS,simprocAttr,rI];exact aF [] (.int .i64 (gE l c)) rfl rfl
theorem cK6 (l:List UInt8)(c:UInt8):bM Tryz.prog 150 [.str l,u8 c] (fun v=>v= .int .i64 (gE l c)):=by
 refine FW Tryz.func150 ?_;have F:=rI;refine RF ?_;refine RS ?_;have F:=aI rI (aI @denilL_u8 @aE6);refine AU ?_;refine SCF (cK5 l c) ?_;refine AU ?_;refine aE ?_;simp only[eR,Tryz.results150,eF,eQ,dY,↓sP,sA,tyS,simprocAttr,rI];exact aF [] (.int .i64 (gE l c)) rfl rfl
theorem vM (l:List UInt8)(c:UInt8):bM Tryz.prog 124 [.str l,u8 c] (fun v=>v= .int .i64 (gE l c)):=by
 refine FW Tryz.func124 ?_;have F:=rI;refine RF ?_;refine RS ?_;have F:=aI rI (aI @denilL_u8 @aE6);refine AU ?_;refine SCF (cK6 l c) ?_;refine AU ?_;refine aE ?_;simp only[eR,Tryz.results124,eF,eQ,dY,↓sP,sA,tyS,simprocAttr,rI];exact aF [] (.int .i64 (gE l c)) rfl rfl
theorem aO2 (l:List UInt8)(c:UInt8):bM Tryz.prog 122 [.slc (l.map u8),.slc [u8 c]] (fun v=>v= .int .i64 (gE l c)):=by
 refine FW Tryz.func122 ?_;have F:=rI;refine RF ?_;refine RF ?_;refine aC fun K J=>?_;refine aL ?_;refine RF ?_;refine aJ (b:=(1:Int)==0) rfl (fun I=>?_) (fun I=>?_)
 · exact absurd I (by decide)
 refine RF ?_;refine aJ (b:=(1:Int)==1) rfl (fun I=>?_) (fun I=>?_)
 · refine RS ?_;have F:=aI rI (aI @u8.eq_1 (aI @cV6 @denilL_u8));refine AU ?_;refine SCF (dF6 l c) ?_;refine AU ?_;refine aE ?_;simp only[eR,Tryz.results122,eF,eQ,dY,↓sP,sA,tyS,simprocAttr,rI];exact aF [] (.int .i64 (gE l c)) rfl rfl
 exact absurd I (by decide)
theorem cV8 (l:List UInt8)(c:UInt8)(hl:l.length<2^40):cF7 Tryz.prog 92 [.slc (l.map u8),.slc [u8 c]] (fun x y f=> ∃(li re:List UInt8) (fd:Bool),x= .slc (li.map u8)∧y= .slc (re.map u8)∧f= .bool fd∧CutR l c li re fd):=by
 refine FW Tryz.func92 ?_;have F:=rI;refine RF ?_;refine aC fun K I=>?_;refine RS ?_;have F:=aI rI @denilL_u8;refine AU ?_;refine SCF (aO2 l c) ?_;refine SF ?_;refine RE ?_;have F:=rI;refine RF ?_;refine aJ (b:=decide ((0:Int)≤gE l c)) rfl (fun U=>?_) (fun U=>?_)
 ·
  have hn: ¬gE l c<0:=by simp at U;omega
  obtain⟨i,hi,J,ab⟩:=jT hn;have aa:=hi;rw[hi];refine aC fun K I=>QR ?_;have F:=aI rI (aI @A1 (aI @H1 (aI @Int.sub_zero (aI @H6 (aI @G2.{0} (aI @jB (aI @denilL_u8 (aI @A0.{0,0} (show IntKind.i64.wrap ((i:Int)+1)=((i+1:Nat):Int)from by rw[B0 _ (by omega)];rfl)))))))));refine AU ?_;simp only[sE,↓reduceIte,simprocAttr,rI];refine AX (I _ _ _ ?_);clear I K;refine aE ?_;simp only[eR,Tryz.results92,eF,eQ,dY,↓sP,sA,tyS,simprocAttr,rI];refine aC4 [] (.slc ((l.take i).map u8)) (.slc ((l.drop (i+1)).map u8)) (.bool true) ?_ ⟨_,_,_,rfl,rfl,rfl,.inr ⟨rfl,i,hi,J,rfl,rfl⟩⟩;simp[denilL_u8];exact⟨by rw[←List.map_take,denilL_u8],by rw[←List.map_drop,←List.map_take,denilL_u8,C8 (by simp)]⟩
 have hn:gE l c<0:=by simp at U;omega
 refine aG ?_;refine TQ rI ?_;refine AX (I _ _ _ ?_);clear I K;refine AU ?_;refine aE ?_;simp only[eR,Tryz.results92,eF,eQ,dY,↓sP,sA,tyS,simprocAttr,rI];refine aC4 [] (.slc (l.map u8)) (.slc []) (.bool false) ?_ ⟨l,[],false,rfl,rfl,rfl,.inl ⟨rfl,hn,rfl,rfl⟩⟩;simp[denilL_u8]
theorem cV9 (l:List UInt8)(c:UInt8):bO6 Tryz.prog 123 148 [.slc (l.map u8),.slc [u8 c],.int .i64 0] [(52,.slc [u8 c]),(52,.slc (l.map u8)),(3,.int .i64 0)]:=by
 refine FW Tryz.func123 ?_;refine RS ?_;have F:=rI;refine AU ?_;refine aE ?_;simp only[eR,Tryz.results123,eF,eQ,dY,↓sP,sA,tyS,simprocAttr,rI];refine xA (gf:=148) (bs:=[(52,.slc [u8 c]),(52,.slc (l.map u8)),(3,.int .i64 0)]) (ids:=[4,0,8]) rfl (by simp) (by decide) ?_ ?_
 ·
  intro j x hx
  match j,hx with
  |0,hx=>cases hx;rfl
  |1,hx=>cases hx;rfl
  |2,hx=>cases hx;rfl
 intro x hx;simp only[E0,H7,N6]at hx;rcases hx with rfl|rfl|rfl
 · rfl
 · exact congrArg CV.slc (denilL_u8 l)
 rfl
theorem bY5 (l:List UInt8)(c:UInt8):bO6 Tryz.prog 93 148 [.slc (l.map u8),.slc [u8 c]] [(52,.slc [u8 c]),(52,.slc (l.map u8)),(3,.int .i64 0)]:=by
 refine FW Tryz.func93 ?_;have F:=rI;refine RF ?_;refine aC fun K J=>Rg ?_;iterate 2 refine S0 ?_ (e:=fun _ h_=>by simp only[sH,↓sP,sA,tyS,simprocAttr,rI,denilL_u8,qG,kE,List.range',B8,F2];exact AX h_)
 refine HS rfl rfl fun U I=>?_;simp only[sH,↓sP,sA,tyS,simprocAttr,rI,denilL_u8,qG,kE,List.range',B8,F2];refine wZ (args:=[_,_,_]) (cV9 l c) (by simp) ⟨rfl,rfl,rfl,rfl⟩ ?_;refine AX (I _ _ ?_);clear I U;refine S0 ?_ (e:=fun _ h_=>by simp only[sH,↓sP,sA,tyS,simprocAttr,rI,denilL_u8,qG,kE,List.range',B8,F2];exact AX h_);simp only[sE,↓reduceIte,simprocAttr,rI];refine AX (J _ _ _ ?_);clear J K;refine aE ?_;simp only[eR,Tryz.results93,eF,eQ,dY,↓sP,sA,tyS,simprocAttr,rI];refine xA (gf:=148) (bs:=[(52,.slc [u8 c]),(52,.slc (l.map u8)),(3,.int .i64 0)]) (ids:=[12,13,14]) rfl (by simp) (by decide) ?_ ?_
 ·
  intro j x hx
  match j,hx with
  |0,hx=>cases hx;rfl
  |1,hx=>cases hx;rfl
  |2,hx=>cases hx;rfl
 intro x hx;simp only[E0,H7,N6]at hx;rcases hx with rfl|rfl|rfl
 · rfl
 · exact congrArg CV.slc (denilL_u8 l)
 rfl
theorem dB5 {α:Type}(l:List (List UInt8))(j:Nat)(p:List UInt8)(r:List (List UInt8))(h:l.drop j=p::r): ∃I:j<(l.map fun p=>[CV.slc (p.map u8)]).length,(l.map fun p=>[CV.slc (p.map u8)])[j]=[CV.slc (p.map u8)]∧l.drop (j+1)=r:=by
 have I:j<l.length:=by
  rcases H4 j l.length with h'|h'
  · exact h'
  rw[O4 h']at h;cases h
 have J:=F5 I;rw[J]at h;cases h;exact⟨by simpa using I,by simp,rfl⟩
theorem bL1 (l:List UInt8)(c:UInt8)(hl:l.length<2^40):aS8 Tryz.prog 148 [(52,.slc [u8 c]),(52,.slc (l.map u8)),(3,.int .i64 0)] ((aQ c l).map fun p=>[.slc (p.map u8)]):=by
 refine aM3 Tryz.func148 rfl (by kernel_rfl) (C7 rfl) rfl fun L J hS hY=>?_;have e0:mN [(52,CV.slc [u8 c]),(52,.slc (l.map u8)),(3,.int .i64 0)]=fob [(0,.box 52 (.c (.slc [u8 c]))),(1,.box 52 (.c (.slc (l.map u8)))),(2,.box 3 (.c (.int .i64 0)))]:=by
  funext i
  match i with
  |0=>rfl
  |1=>rfl
  |2=>rfl
  |i+3=>simp[mN,fob,upd]
 have e1:kE (List.range [((52:Nat),CV.slc [u8 c]),(52,.slc (l.map u8)),(3,.int .i64 0)].length)=[.ptr 0 0,.ptr 1 0,.ptr 2 0]:=rfl;rw[e0,e1];refine iD fun K hK=>?_;refine iD fun K1 I=>qE hS rfl (aM (by kernel_rfl) ?_);simp only[sR,simprocAttr];have F:=rI;refine AU ?_;simp only[sE,↓reduceIte,simprocAttr,rI];refine I _ _ _ _ _ ?_;clear I K1;refine lZ (b:=false) rfl (fun hb=>by cases hb) (fun _=>?_);refine qF ?_;simp only[sE,↓reduceIte,simprocAttr,rI];refine hK _ _ _ _ _ ?_;clear hK K;refine iD fun K hK=>?_;refine rD ?_;refine bA4 (α:={y:Nat×List UInt8//(aQ c l).drop y.1=aQ c y.2∧y.2.length≤l.length}) hS (fun y=>(fin [(0,.opq (.func (.yield L) #[] #[])),(1,.ptr 0 0),(2,.ptr 1 0),(3,.ptr 2 0)],fob [(0,.box 52 (.c (.slc [u8 c]))),(1,.box 52 (.c (.slc (y.1.2.map u8)))),(2,.box 3 (.c (.int .i64 0)))])) (fun y=>y.1.1) 100 (fun y=>y.1.2.length) ⟨(0,l),rfl,E3 _⟩ rfl (fF) rfl ?_;rintro⟨⟨j,rest⟩,aa,hle⟩;simp only at aa hle;refine rD ?_;refine iD fun K1 I=>qE hS rfl (aM (by kernel_rfl) ?_);simp only[sR,simprocAttr];iterate 2 refine SF ?_
 have F:=aI rI @denilL_u8;refine SCF (aO2 rest c) ?_;have F:=rI;refine SF ?_;simp only[sE,↓reduceIte,simprocAttr,rI];refine I _ _ _ _ _ ?_;clear I K1;refine iD fun K1 I=>?_;refine iD fun K2 U=>qE hS rfl (aM (by kernel_rfl) ?_);simp only[sR,simprocAttr];refine AU ?_;simp only[sE,↓reduceIte,simprocAttr,rI];refine U _ _ _ _ _ ?_;clear U K2;refine lZ (b:=decide (gE rest c<0)) rfl (fun hb=>?_) (fun hb=>?_)
 ·
  have hn:gE rest c<0:=by simpa using hb
  rw[uX hn]at aa;obtain⟨hj,hx,hd⟩:=dB5 (α:=Nat) _ _ _ _ aa;refine bA3 ?_;simp only[sE,↓reduceIte,simprocAttr,rI];clear I K1;refine hK _ _ _ _ _ ?_;clear hK K;have ab:List.take rest.length (rest.map u8)=rest.map u8:=C8 (by simp);refine wY (l:=L) 7 hS hY rfl (by kernel_rfl) (by decide) ?_;simp only[sR,List.range',simprocAttr];have F:=aI rI @A0.{0,0};iterate 6 refine SF ?_
  refine S0 ?_ (e:=fun _ h_=>by simp only[sH,↓sP,sA,tyS,simprocAttr,rI,ab,A0,↓hslice3.eq_def,A1,jB,G2,H6,BD,E7];exact AX h_);rw[hlex];refine⟨_,_,_,hj,rfl,rfl,rfl,rfl,rfl,?_,?_,?_⟩
  · rw[hx];rfl
  · simp only[sR,List.range',simprocAttr];rw[hlex];refine⟨by simp,fun _=>?_⟩;have:=List.drop_eq_nil_iff.1 hd;simp only[A0]at hj⊢;omega
  simp only[sR,List.range',simprocAttr];rw[hlex];exact⟨by simp,fun h=>by cases h⟩
 have hn: ¬gE rest c<0:=by simpa using hb
 obtain⟨k,hk,ae,ad⟩:=jT hn;rw[hk];rw[ad]at aa;obtain⟨hj,hx,hd⟩:=dB5 (α:=Nat) _ _ _ _ aa;have ag:min k rest.length=k:=by omega
 have ek:List.take k (rest.map u8)=(rest.take k).map u8:=S6.symm;have ab:List.take k ((rest.take k).map u8)=(rest.take k).map u8:=C8 (by simp;omega);have ah:IntKind.i64.wrap ((k:Int)+1)=((k+1:Nat):Int):=by rw[B0 _ (by omega)];rfl
 have af:k+1≤rest.length:=ae;have ai:List.take (rest.length-(k+1)) (List.drop (k+1) (rest.map u8))=(rest.drop (k+1)).map u8:=by rw[P3,C8 (by simp)]
 refine qF ?_;simp only[sE,↓reduceIte,simprocAttr,rI];refine I _ _ _ _ _ ?_;clear I K1;refine iD fun K1 I=>qE hS rfl (aM (by kernel_rfl) ?_);simp only[sR,simprocAttr];iterate 6 refine S0 ?_ (e:=fun _ h_=>by simp only[sH,↓sP,sA,tyS,simprocAttr,rI,ek,A0,A1,jB,Int.add_zero,H1,S3 ae,G2,H6,show IntKind.i64.wrap (k:Int)=(k:Int)from B0 _ (by omega)];exact AX h_)
 simp only[sE,↓reduceIte,simprocAttr,rI];refine I _ _ _ _ _ ?_;clear I K1;refine iD fun K1 I=>?_;refine iD fun K2 U=>wY (l:=L) 7 hS hY rfl (by kernel_rfl) (by decide) ?_;simp only[sR,List.range',simprocAttr];have F:=aI rI (aI @A0.{0,0} (aI @E1.{0} ag));iterate 6 refine SF ?_
 refine S0 ?_ (e:=fun _ h_=>by simp only[sH,↓sP,sA,tyS,simprocAttr,rI,ab,A0,E1,ag,↓hslice3.eq_def,A1,jB,G2,H6,BD,E7];exact AX h_);rw[hlex];refine⟨_,_,_,hj,rfl,rfl,rfl,rfl,rfl,?_,?_,?_⟩
 · rw[hx];rfl
 · simp only[sR,List.range',simprocAttr];have F:=rI;refine SF ?_;simp only[sE,↓reduceIte,simprocAttr,rI];refine U _ _ _ _ _ ?_;clear U K2;refine lZ (b:=false) rfl (fun hb=>by cases hb) (fun _=>?_);refine qF ?_;simp only[sE,↓reduceIte,simprocAttr,rI];refine I _ _ _ _ _ ?_;clear I K1;refine qE hS rfl (aM (by kernel_rfl) ?_);simp only[sR,simprocAttr];have F:=aI rI (aI ai (aI ah (aI @A0.{0,0} (aI @A1 (aI @jB (aI @H1 (aI af @denilL_u8)))))));refine AU ?_;simp only[sE,↓reduceIte,simprocAttr,rI];refine⟨⟨(j+1,rest.drop (k+1)),hd,by simp;omega⟩,fF,trivial,rfl,?_⟩;show(rest.drop (k+1)).length<rest.length;simp;omega
 simp only[sR,List.range',simprocAttr];have F:=rI;refine SF ?_;simp only[sE,↓reduceIte,simprocAttr,rI];refine U _ _ _ _ _ ?_;clear U K2;refine lZ (b:=true) rfl (fun _=>?_) (fun hb=>by cases hb);refine bO5 ?_;simp only[sE,↓reduceIte,simprocAttr,rI];exact⟨by simp,fun h=>by cases h⟩
theorem dF7 (s:aK)(hl:s.length<2^40):fH Tryz.prog 94 [.str s] (fun u v=>u= .str ((unW s).getD [])∧v= .bool (unW s).isSome):=by
 refine FW Tryz.func94 ?_;refine R0 ?_;refine aC fun K U=>?_;refine R0 ?_;refine aJ (b:=s==[126]) rfl (fun hb=>?_) (fun hb=>?_)
 ·
  refine R0 ?_;refine aE (RT Tryz.results94 ?_);have hs:s=[126]:=by simpa using hb
  subst hs;exact aO [] (.str []) (.bool true) rfl ⟨rfl,rfl⟩
 refine aG ?_;refine T0 (U _ _ _ ?_);clear U K;have ag:s≠[126]:=by simpa using hb
 clear hb;refine R0 ?_;refine aC fun K U=>?_;refine R0 ?_;refine aL ?_;refine eH 4 0 5 1 rfl rfl rfl rfl ?_;refine bB (α:={y:Nat×aK//UnSt s y.1 y.2}) (fun y=>(fin [(0,.c (.str s)),(4,.own 24 y.1.2.length),(5,.c (.int .i64 y.1.1))],fob [(24,.row 5 1 (y.1.2.map cM))])) 100 (fun y=>s.length-y.1.1) ⟨(0,[]),UnSt.init s⟩ (fF) ?_;rintro⟨⟨i,out⟩,aa⟩;simp only at aa;have hi:=aa.1;have ho:=aa.2.2.2;refine aC fun K U=>?_;refine AU ?_;refine aJ (b:=decide ((i:Int)<s.length)) rfl (fun hb=>?_) (fun hb=>?_)
 ·
  have ab:i<s.length:=by simpa using hb
  clear hb;have hgd:s.getD i 0=s[i]:=by simp[ab]
  refine aG ?_;refine T0 (U _ _ _ ?_);clear U K;refine aC fun K U=>?_;refine aL ?_;refine aC fun K U=>?_;refine aC fun K U=>Rg ?_;iterate 3 refine S0 ?_ (e:=fun _ h_=>by simp only[sH,↓sP,sA,tyS,simprocAttr,A1,A4,ab,hgd];exact AX h_)
  refine HS rfl rfl fun K' ad=>?_;simp only[sH,↓sP,sA,tyS,simprocAttr,A1,A4,ab,hgd];refine C1 (vL s[i]) ?_;rintro u rfl;refine AX (ad _ _ ?_);clear ad K';refine T2 (U _ _ _ ?_);clear U K;refine aJ (b:=cX s[i]) rfl (fun hb=>?_) (fun hb=>?_)
  ·
   refine RS ?_;iterate 7 refine S0 ?_ (e:=fun _ h_=>by simp only[sH,↓sP,sA,tyS,simprocAttr,A1,A4,ab,hgd,A3,A0];exact AX h_)
   refine RE ?_;refine aV (T3 ?_);clear U K;refine AX (U _ _ _ ?_);clear U K;refine aM (by kernel_rfl) ?_;refine TQ (cW i) ?_;refine⟨⟨(i+1,out++[s[i]]),aa.plain ab hb⟩,bA (by omega) ?_ ?_,?_⟩
   · simp
   · simp only[jQ,C5];exact⟨rfl,by omega,trivial,trivial⟩
   show s.length-(i+1)<s.length-i;omega
  refine aG ?_;refine T0 (U _ _ _ ?_);clear U K;refine aC fun K U=>?_;have hp:cX s[i]=false:=hb;clear hb;have ax:IntKind.i64.wrap ((i:Int)+1)=((i+1:Nat):Int):=by rw[B0 _ (by omega)];rfl
  have ah:IntKind.i64.wrap ((i:Int)+2)=((i+2:Nat):Int):=by rw[B0 _ (by omega)];rfl
  have ao:IntKind.i64.wrap (((i+2:Nat):Int)+1)=((i+3:Nat):Int):=by rw[B0 _ (by omega)];rfl
  refine RS ?_;iterate 5 refine S0 ?_ (e:=fun _ h_=>by simp only[sH,↓sP,sA,tyS,simprocAttr,A1,A4,ab,hgd,ah];exact AX h_)
  refine aH 29 rfl (fun I=>?_) (fun I=>?_)
  ·
   iterate 6 refine S0 ?_ (e:=fun _ h_=>by simp only[sH,↓sP,sA,tyS,simprocAttr,A1,A4,ab,hgd,ah,I];exact AX h_)
   refine RE ?_;refine CT rfl ?_;refine R0 ?_;refine aE (RT Tryz.results94 ?_);have af:s[i]≠37:=by rintro h;rw[h]at I;simp at I
   have hn:=jE (aa.bad1 ab hp (.inl af)) ag;exact aO [] (.str []) (.bool false) rfl ⟨by rw[hn];rfl,by rw[hn];rfl⟩
  iterate 6 refine S0 ?_ (e:=fun _ h_=>by simp only[sH,↓sP,sA,tyS,simprocAttr,A1,A4,ab,hgd,ah,I];exact AX h_)
  refine aH 35 rfl (fun J=>?_) (fun J=>?_)
  ·
   simp only[J];refine RE ?_;refine CT rfl ?_;refine R0 ?_;refine aE (RT Tryz.results94 ?_);have ae:s.length≤i+2:=by simp at J;omega
   have hn:=jE (aa.bad1 ab hp (.inr ae)) ag;exact aO [] (.str []) (.bool false) rfl ⟨by rw[hn];rfl,by rw[hn];rfl⟩
  simp only[J];refine RE ?_;refine CF rfl ?_;refine aG ?_;refine T0 (U _ _ _ ?_);clear U K;have af:s[i]=37:=by
   simp only[U8]at I;exact P7.1 (by show s[i].toNat=37;omega)
  have ae:i+2<s.length:=by simp at J;omega
  have an:i+1<s.length:=by omega
  have aq:s.getD (i+1) 0=s[i+1]:=by simp[an]
  have au:s.getD (i+2) 0=s[i+2]:=by simp[ae]
  refine aC fun K U=>DW [(0,[],[]),(1,[],[]),(2,[],[]),(3,[],[]),(5,[],[]),(6,[],[]),(7,[],[]),(8,[],[]),(4,[],[5,6,7,8]),(9,[],[]),(10,[],[]),(11,[],[])] [0,0,2,7,15,0,0,64,224,511,1023,2047] ?_;have F:=aI @A1 (aI @A4 (aI ax (aI ah (aI aq (aI au (aI an (aI ae (aI I J))))))));iterate 8 refine WF ?_
  refine bL (g:=none) rfl rfl fun K' ad=>T6 ?_;refine C2 (vM cT9 s[i+1]) ?_;rintro u rfl;refine AX (ad _ _ ?_);clear ad K';refine bL (g:=none) rfl rfl fun K' ad=>T6 ?_;refine C2 (vM cT9 s[i+2]) ?_;rintro u rfl;refine AX (ad _ _ ?_);clear ad K';iterate 2 refine WF ?_
  refine T2 (U _ _ _ ?_);clear U K;refine aC fun K U=>?_;by_cases hx:valH s[i+1]<16
  ·
   by_cases hy:valH s[i+2]<16
   ·
    rw[uY,uY,B1 hx,B1 hy];have aj:decide (((valH s[i+1]:Nat):Int)<0)=false:=by simp
    have aw:decide (((valH s[i+2]:Nat):Int)<0)=false:=by simp
    have e1:IntKind.i64.wrap (16*((valH s[i+1]:Nat):Int))=((16*valH s[i+1]:Nat):Int):=by rw[B0 _ (by omega)];omega
    have e2:IntKind.i64.wrap (((16*valH s[i+1]:Nat):Int)+((valH s[i+2]:Nat):Int))=((16*valH s[i+1]+valH s[i+2]:Nat):Int):=by rw[B0 _ (by omega)];omega
    have e3:IntKind.u8.wrap ((16*valH s[i+1]+valH s[i+2]:Nat):Int)=((byteH s[i+1] s[i+2]).toNat:Int):=by rw[K7 _ (by omega),xD hx hy]
    refine RS ?_;have F:=aI aj (aI aw (aI e1 (aI e2 (aI e3 (aI I J)))));refine AU ?_;refine SCF (vL (byteH s[i+1] s[i+2])) ?_;refine AU ?_;refine aJ (b:=cX (byteH s[i+1] s[i+2])) rfl (fun hb=>?_) (fun hb=>?_)
    · refine R0 ?_;refine aE (RT Tryz.results94 ?_);have hn:=jE (aa.bad2 ae af (by simp[okH,hx,hy,hb])) ag;exact aO [] (.str []) (.bool false) rfl ⟨by rw[hn];rfl,by rw[hn];rfl⟩
    refine aG ?_;refine T0 (U _ _ _ ?_);clear U K;refine RS ?_;have F:=aI @A1 (aI @A3.{0} (aI @A0.{0,0} (aI e1 (aI e2 (aI e3 (aI I J))))));refine AU ?_;refine aM (by kernel_rfl) ?_;refine TQ ah ?_;refine AX (U _ _ _ ?_);clear U K;refine aM (by kernel_rfl) ?_;refine TQ ao ?_;refine⟨⟨(i+3,out++[byteH s[i+1] s[i+2]]),aa.esc ae af (by simp[okH,hx,hy,hb])⟩,bA (by omega) ?_ ?_,?_⟩
    · simp
    · simp only[jQ,C5];exact⟨rfl,by omega,trivial,trivial⟩
    show s.length-(i+3)<s.length-i;omega
   rw[uY,uY,B1 hx,A7 hy];have aj:decide (((valH s[i+1]:Nat):Int)<0)=false:=by simp
   refine RS ?_;have F:=aI aj (aI I J);refine AU ?_;refine CT rfl ?_;refine R0 ?_;refine aE (RT Tryz.results94 ?_);have hn:=jE (aa.bad2 ae af (by simp[okH,hx,hy])) ag;exact aO [] (.str []) (.bool false) rfl ⟨by rw[hn];rfl,by rw[hn];rfl⟩
  rw[uY,A7 hx];refine RS ?_;have F:=aI I J;refine AU ?_;refine CT rfl ?_;refine R0 ?_;refine aE (RT Tryz.results94 ?_);have hn:=jE (aa.bad2 ae af (by simp[okH,hx])) ag;exact aO [] (.str []) (.bool false) rfl ⟨by rw[hn];rfl,by rw[hn];rfl⟩
 refine aV (T3 ?_);clear U K;refine AX (U _ _ _ ?_);clear U K;have ar:i=s.length:=by simp at hb;omega
 have ak:=aa.fin ar ag;refine bW [24] (aZ (fr2:=fin [(4,.c (.slc (out.map cM)))]) (ob2:=fob []) (nx2:=200) (bA (by omega) (by simp[bT]) (by simp)) ?_);refine RS ?_;have F:=aI @bytesC_map @A0.{0,0};refine AU ?_;refine aE (RT Tryz.results94 ?_);refine aO [] (.str out) (.bool (decide (0<(out.length:Int)))) rfl ?_;rw[ak];by_cases ai:out=[]
 · subst ai;simp
 have:0<out.length:=J8.2 ai;simp[ai,this]
def lsC (l:List aK):CV:= .slc (l.map .str)
theorem dX (l:List aK):(lsC l).cells=1:=rfl
theorem rK (l:List aK):(lsC l).denil=lsC l:=by simp only[lsC,CV.denil,denilL_str]
theorem cK (l:List (List aK)):CV.denilL (l.map lsC)=l.map lsC:=bZ rK l
theorem dF8 (b:aK)(hl:b.length<2^40):fH Tryz.prog 61 [.slc (b.map u8)] (fun u v=>u= .slc ((gT b).map lsC)∧v= .int .i64 (eT b)):=by
 refine FW Tryz.func61 ?_;have F:=rI;refine RF ?_;refine cG2 ?_;refine aC fun K I=>?_;have F:=aI rI @A0.{0,0};refine RF ?_;refine aJ (b:=decide ((262144:Int)<b.length)) rfl (fun U=>?_) (fun U=>?_)
 ·
  have F:=rI;refine RF ?_;refine aE ?_;simp only[eR,Tryz.results61,eF,eQ,dY,↓sP,sA,tyS,simprocAttr,rI];have hE:eT b=3:=by unfold eT;rw[B1 (by simp at U;omega)]
  refine aO [] (.slc []) (.int .i64 3) ?_ ⟨by simp only[gT,hE];rfl,by rw[hE]⟩;simp
 refine aG ?_;refine TQ rI ?_;refine AX (I _ _ _ ?_);clear I K;have hle:b.length≤262144:=by simp at U;omega
 clear U;have F:=rI;refine RF ?_;refine RF ?_;refine aC fun K I=>?_;refine cE0 ?_;try simp only[↓sP,sA,tyS,simprocAttr,rI]
 refine AX (I _ _ _ ?_);clear I K;refine aC fun K I=>?_;have key: ∀(ok:Bool) (ls:List (List aK)) fr ob nx,(ok=true→kF b=some ls)→(ok=false→kF b=none)→ls.length≤b.length→Fits 0 fr ob (fin [(4,.own 32 ls.length),(5,.ptr 24 0)]) (fob [(24,.box 4 (.c (.bool ok))),(32,.row 71 1 (ls.map lsC))]) 1000→K fr ob nx:=by
  intro ok ls fr ob nx h1 h2 h3 hf;refine I _ _ _ (aZ hf ?_);clear hf I K;refine aC fun K I=>?_;cases ok
  ·
   refine RS ?_;have F:=aI rI @A0.{0,0};refine AU ?_;refine CT rfl ?_;have F:=rI;refine RF ?_;refine aE ?_;simp only[eR,Tryz.results61,eF,eQ,dY,↓sP,sA,tyS,simprocAttr,rI];have hE:eT b=2:=by unfold eT;rw[A7 (by omega),h2 rfl]
   refine aO [] (.slc []) (.int .i64 2) ?_ ⟨by simp only[gT,hE];rfl,by rw[hE]⟩;simp
  refine RS ?_;have F:=aI rI @A0.{0,0};refine AU ?_;refine aJ (b:=decide ((1000:Int)<ls.length)) rfl (fun U=>?_) (fun U=>?_)
  ·
   have F:=rI;refine RF ?_;refine aE ?_;simp only[eR,Tryz.results61,eF,eQ,dY,↓sP,sA,tyS,simprocAttr,rI];have hE:eT b=2:=by unfold eT;rw[A7 (by omega),h1 rfl];simp only;rw[B1 (by simp at U;omega)]
   refine aO [] (.slc []) (.int .i64 2) ?_ ⟨by simp only[gT,hE];rfl,by rw[hE]⟩;simp
  refine aG ?_;refine TQ rI ?_;refine AX (I _ _ _ ?_);clear I K;have F:=rI;refine RF ?_;refine aE ?_;simp only[eR,Tryz.results61,eF,eQ,dY,↓sP,sA,tyS,simprocAttr,rI];have hE:eT b=0:=by unfold eT;rw[A7 (by omega),h1 rfl];simp only;rw[A7 (by simp at U;omega)]
  refine aO [32] (.slc (ls.map lsC)) (.int .i64 0) ?_ ⟨by simp only[gT,hE,h1 rfl];rfl,by rw[hE]⟩;simp[cK]
 refine aL ?_;refine eH 4 0 71 1 rfl rfl rfl rfl ?_;refine bB (α:={y:aK×List (List aK)//DecSt b y.1 y.2}) (fun y=>(fin [(0,.c (.slc (y.1.1.map u8))),(4,.own 32 y.1.2.length),(5,.ptr 24 0)],fob [(24,.box 4 (.c (.bool true))),(32,.row 71 1 (y.1.2.map lsC))])) 100 (fun y=>y.1.1.length) ⟨(b,[]),DecSt.init b⟩ (fF) ?_;rintro⟨⟨rest,ls⟩,aa⟩;simp only at aa;have aq:=aa.2.1;have au:=aa.2.2;refine aC fun K I=>?_;have F:=aI rI @A0.{0,0};refine RF ?_;refine aJ (b:=decide ((0:Int)<rest.length)) rfl (fun U=>?_) (fun U=>?_)
 ·
  refine aG ?_;refine TQ rI ?_;refine AX (I _ _ _ ?_);clear I K;refine aL ?_;have ad:rest≠[]:=by rintro rfl;simp at U
  clear U;refine aC fun K I=>aY (by kernel_rfl) ?_;simp only[sR,simprocAttr];have F:=aI rI @denilL_u8;refine SGF ?_;refine cN (g:=none) 116 rfl rfl fun K' J=>?_;simp only[gH,kC,sH,↓sP,sA,tyS,simprocAttr,rI,denilL_u8];repeat refine AI ?_
  refine cO (by first|rfl|simp) ?_;try simp only[sH,↓sP,sA,tyS,simprocAttr,rI,denilL_u8]
  refine AX (J _ _ ?_);clear J K';refine cE (g:=none) rfl rfl fun K' J=>T6 ?_;refine bJ0 (args:=[_,_]) (cV8 rest 10 (by omega)) ⟨rfl,rfl,rfl,rfl⟩ ?_;rintro u v x ⟨li,re,fd,rfl,rfl,rfl,ab⟩;have ak:=ab.lt ad;refine AX (J _ _ ?_);clear J K';iterate 7 refine SGF ?_
  simp only[sE,↓reduceIte,simprocAttr,rI];refine AX (I _ _ _ ?_);clear I K;have F:=rI;refine RF ?_;refine aC fun K I=>?_;refine aC fun K I=>aY (by kernel_rfl) ?_;simp only[sR,simprocAttr];refine SG0 ?_ (e:=fun _ h_=>by simp only[sH,↓sP,sA,tyS,simprocAttr,rI,denilL_u8,qG,kE,List.range',B8,F2];exact AX h_);refine cN (g:=none) 160 rfl rfl fun K' J=>?_;simp only[gH,kC,sH,↓sP,sA,tyS,simprocAttr,rI,denilL_u8,qG,kE,List.range',B8,F2];repeat refine AI ?_
  refine cO (by first|rfl|simp) ?_;try simp only[sH,↓sP,sA,tyS,simprocAttr,rI,denilL_u8,qG,kE,List.range',B8,F2]
  refine AX (J _ _ ?_);clear J K';refine cE (g:=none) rfl rfl fun K' J=>?_;simp only[sH,↓sP,sA,tyS,simprocAttr,rI,denilL_u8,qG,kE,List.range',B8,F2];refine wZ (args:=[_,_]) (bY5 li 32) (by simp) ⟨rfl,rfl,rfl,rfl⟩ ?_;refine AX (J _ _ ?_);clear J K';simp only[sE,↓reduceIte,simprocAttr,rI];refine AX (I _ _ _ ?_);clear I K;refine aL ?_;refine dV 152 0 9 1 rfl rfl rfl rfl ?_;refine aM2 (ids:=[164,165,166]) (fin [(0,.c (.slc (rest.map u8))),(4,.own 32 ls.length),(5,.ptr 24 0),(7,.c (.slc (re.map u8))),(8,.c (.bool fd)),(9,.ptr 152 0)]) (fun i=>fob [(24,.box 4 (.c (.bool true))),(32,.row 71 1 (ls.map lsC)),(152,.box 71 (.own 168 i)),(168,.row 9 1 ((wsT li i).map .str))]) 200 (fun i=>aI9 li i) (fun p hp=>by simp at hp) (bL1 li 32 (by omega)) rfl rfl (by decide) ?_ ?_ ?_ ?_ ?_ rfl rfl ?_ ?_
  ·
   intro j x hx
   match j,hx with
   |0,hx=>cases hx;rfl
   |1,hx=>cases hx;rfl
   |2,hx=>cases hx;rfl
  · exact bA (by omega) (by simp) (by simp[qG,wsT])
  · intro id hid;simp only[E0,H7,N6]at hid;rcases hid with rfl|rfl|rfl<;>rfl
  · intro x hx;obtain⟨p,_,rfl⟩:=H0.1 hx;rfl
  · intro p hp;simp only[E0,H7,N6]at hp;subst hp;exact C7 rfl
  ·
   intro i hi hΦ K I;have ae:i<(aQ 32 li).length:=by simpa using hi
   have af:=mC (r:=li) (S3 ae);have an:=dN 32 li;obtain⟨p,hp⟩: ∃p,p=(aQ 32 li)[i]:=⟨_,rfl⟩;have ar:p.length≤li.length:=by rw[hp];exact jO 32 li _ (B5 ae)
   have hx:(List.map (fun p=>[CV.slc (List.map u8 p)]) (aQ 32 li))[i]=[CV.slc (p.map u8)]:=by rw[AL,hp]
   rw[hx];simp only[aC9];have aj:jJ (p.map u8)=some p:=bytesC_map p;refine aM (by kernel_rfl) ?_;refine TQ rI ?_;refine AX (I _ _ _ ?_);clear I K;refine aL ?_;refine aC fun K I=>Rg ?_;have F:=aI rI aj;refine AU ?_;refine HS rfl rfl fun K' J=>T6 ?_;refine D1 (dF7 p (by omega)) ?_;rintro u v ⟨rfl,rfl⟩;refine AX (J _ _ ?_);clear J K';refine AU ?_;simp only[sE,↓reduceIte,simprocAttr,rI];refine AX (I _ _ _ ?_);clear I K;refine aC fun K I=>?_;have F:=rI;refine RF ?_;refine aJ (b:=!(unW p).isSome) rfl (fun U=>?_) (fun U=>?_)
   · refine RF ?_;refine aV ?_;refine TQ rI ?_;clear I K;clear I K;exact key false ls _ _ _ (fun h=>by cases h) (fun _=>aa.bad ab ad (cH3 ae (by rw[←hp];simpa using U))) (by omega) (fF)
   refine aG ?_;refine TQ rI ?_;refine AX (I _ _ _ ?_);clear I K;refine Rg ?_;have F:=aI rI (aI @A3.{0} (aI @A0.{0,0} af));refine AU ?_;simp only[sE,↓reduceIte,simprocAttr,rI];refine⟨(show Fits 200 _ _ (fin []) _ 200 from bA (by omega) trivial ?_),rG ae hΦ (by rw[←hp];simpa using U)⟩;rw[uZ ae,←hp];simp
  intro hΦ;simp only[sE,↓reduceIte,simprocAttr,rI];rw[A0]at hΦ⊢;have af:=mC (r:=li) (E3 _);have ag:=cU0 hΦ;have an:=dN 32 li;obtain⟨ws,ah⟩: ∃ws,ws=wsT li (aQ 32 li).length:=⟨_,rfl⟩;rw[←ah]at ag af;rw[←ah,←af];refine AX (I _ _ _ ?_);clear I K;refine aC fun K I=>?_;cases fd
  · refine bW [168] (aZ (fr2:=fin [(0,.c (.slc (rest.map u8))),(4,.own 32 ls.length),(5,.ptr 24 0),(7,.c (.slc (re.map u8))),(8,.c (.bool false)),(9,.ptr 152 0)]) (ob2:=fob [(24,.box 4 (.c (.bool true))),(32,.row 71 1 (ls.map lsC)),(152,.box 71 (.c (.slc (ws.map .str))))]) (nx2:=300) (bA (by omega) (by simp[denilL_u8]) (by simp[denilL_str])) ?_);refine AU ?_;refine CT rfl ?_;refine RF ?_;refine aV ?_;refine TQ rI ?_;clear I K;exact key false ls _ _ _ (fun h=>by cases h) (fun _=>aa.bad0 ab ad) (by omega) (fF)
  refine bW [168] (aZ (fr2:=fin [(0,.c (.slc (rest.map u8))),(4,.own 32 ls.length),(5,.ptr 24 0),(7,.c (.slc (re.map u8))),(8,.c (.bool true)),(9,.ptr 152 0)]) (ob2:=fob [(24,.box 4 (.c (.bool true))),(32,.row 71 1 (ls.map lsC)),(152,.box 71 (.c (.slc (ws.map .str))))]) (nx2:=300) (bA (by omega) (by simp[denilL_u8]) (by simp[denilL_str])) ?_);refine AU ?_;refine SCF (bC2 ws (by omega)) ?_;refine AU ?_;refine aJ (b:=gZ ws !=0) rfl (fun U=>?_) (fun U=>?_)
  · refine RF ?_;refine aV ?_;refine TQ rI ?_;clear I K;exact key false ls _ _ _ (fun h=>by cases h) (fun _=>aa.bad ab ad (by rw[ag,A7];unfold okL;simpa using U)) (by omega) (fF)
  refine aG ?_;refine TQ rI ?_;refine AX (I _ _ _ ?_);clear I K;refine Rg ?_;have F:=aI rI (aI @A3.{0} @A0.{0,0});refine AU ?_;simp only[sE,↓reduceIte,simprocAttr,rI];have ao:okL ws=true:=by unfold okL;simpa using U
  refine⟨⟨(re,ls++[ws]),aa.next ab ad (by rw[ag,B1 ao])⟩,bA (by omega) ?_ ?_,ak.1⟩
  · simp
  simp only[jQ,C5];exact⟨rfl,by omega,trivial,rfl,by omega,trivial,trivial⟩
 refine aV ?_;refine TQ rI ?_;clear I K;have ai:rest=[]:=by simpa using U
 subst ai;exact key true ls _ _ _ (fun _=>aa.fin) (fun h=>by cases h) (by omega) (fF)
theorem cW0 (s:aK):fH Tryz.prog 151 [.str s] (fun u v=>u= .int .i64 ((cU s).getD 0)∧v= .bool (cU s).isSome):=by
 refine FW Tryz.func151 ?_;refine R0 ?_;refine aC fun K hK=>?_;have key: ∀fr ob nx,iA s=false→Fits 0 fr ob (fin [(0,.c (.str s))]) (fob []) 100→K fr ob nx:=by
  intro fr ob nx ah hf;refine hK _ _ _ (aZ hf ?_);clear hf hK K;have hlen:s.length≤13:=by
   simp only[iA,M4,B7]at ah;omega
  refine R0 ?_;refine aC fun K hK=>?_;refine R0 ?_;refine aL ?_;refine bB (α:={y:Nat×Nat//DgSt s y.1 y.2}) (fun y=>(fin [(0,.c (.str s)),(4,.c (.int .i64 y.1.2)),(5,.c (.int .i64 y.1.1))],fob [])) 200 (fun y=>s.length-y.1.1) ⟨(0,0),DgSt.init s⟩ (fF) ?_;rintro⟨⟨i,n⟩,af⟩;simp only at af;have hi:=af.1;have an:=af.lt hlen;refine aC fun K hK=>?_;refine AU ?_;refine aJ (b:=decide ((i:Int)<s.length)) rfl (fun hb=>?_) (fun hb=>?_)
  ·
   have ae:i<s.length:=by simpa using hb
   clear hb;have hgd:s.getD i 0=s[i]:=by simp[ae]
   have ak:=bB1 s[i];refine aG ?_;refine T0 (hK _ _ _ ?_);clear hK K;refine aC fun K hK=>?_;refine aL ?_;refine aC fun K hK=>?_;have aj: ∀fr ob nx,mO s[i]=true→Fits 0 fr ob (fin [(0,.c (.str s)),(4,.c (.int .i64 n)),(5,.c (.int .i64 i))]) (fob []) 300→K fr ob nx:=by
    intro fr ob nx hd hf;refine hK _ _ _ (aZ hf ?_);clear hf hK K;have ao:48≤s[i].toNat∧s[i].toNat≤57:=by simpa[mO]using hd
    have e1:IntKind.i64.wrap (10*(n:Int))=((10*n:Nat):Int):=by rw[B0 _ (by omega)];omega
    have e2:IntKind.u8.wrap ((s[i].toNat:Int)-48)=((s[i].toNat-48:Nat):Int):=by rw[K7 _ (by omega)];omega
    have e3:IntKind.i64.wrap ((s[i].toNat-48:Nat):Int)=((s[i].toNat-48:Nat):Int):=by rw[B0 _ (by omega)]
    have e4:IntKind.i64.wrap (((10*n:Nat):Int)+((s[i].toNat-48:Nat):Int))=((10*n+(s[i].toNat-48):Nat):Int):=by rw[B0 _ (by omega)];omega
    refine Rg ?_;iterate 9 refine S0 ?_ (e:=fun _ h_=>by simp only[sH,↓sP,sA,tyS,simprocAttr,A1,A4,ae,hgd,e1,e2,e3,e4];exact AX h_)
    refine T2 (hK _ _ _ ?_);clear hK K;refine aM (by kernel_rfl) ?_;refine TQ (cW i) ?_;refine⟨⟨(i+1,10*n+(s[i].toNat-48)),af.next ae hd⟩,fF,?_⟩;show s.length-(i+1)<s.length-i;omega
   refine RS ?_;iterate 5 refine S0 ?_ (e:=fun _ h_=>by simp only[sH,↓sP,sA,tyS,simprocAttr,A1,A4,ae,hgd];exact AX h_)
   refine aH 33 rfl (fun ad=>?_) (fun ad=>?_)
   ·
    iterate 5 refine S0 ?_ (e:=fun _ h_=>by simp only[sH,↓sP,sA,tyS,simprocAttr,A1,A4,ae,hgd,ad];exact AX h_)
    refine RE ?_;refine CT rfl ?_;refine R0 ?_;refine aE (RT Tryz.results151 ?_);have hd:mO s[i]=false:=by simp only[mO,L9,B7];simp at ad;omega
    have hn:=rH (af.bad ae hd);exact aO [] (.int .i64 0) (.bool false) rfl ⟨by rw[hn];rfl,by rw[hn];rfl⟩
   iterate 5 refine S0 ?_ (e:=fun _ h_=>by simp only[sH,↓sP,sA,tyS,simprocAttr,A1,A4,ae,hgd,ad];exact AX h_)
   refine aH 38 rfl (fun ab=>?_) (fun ab=>?_)
   ·
    simp only[ab];refine RE ?_;refine CT rfl ?_;refine R0 ?_;refine aE (RT Tryz.results151 ?_);have hd:mO s[i]=false:=by simp only[mO,L9,B7];simp at ab;omega
    have hn:=rH (af.bad ae hd);exact aO [] (.int .i64 0) (.bool false) rfl ⟨by rw[hn];rfl,by rw[hn];rfl⟩
   simp only[ab];refine RE ?_;refine CF rfl ?_;refine aG (T3 ?_);exact aj _ _ _ (by simp only[mO,B3,C4];simp at ad ab;omega) (fF)
  refine aV (T3 ?_);clear hK K;refine AX (hK _ _ _ ?_);clear hK K;refine aC fun K hK=>?_;have ag:=af.fin (by simp at hb;omega);clear hb;refine R0 ?_;refine aJ (b:=decide ((1099511627776:Int)<(n:Int))) rfl (fun hb=>?_) (fun hb=>?_)
  · refine R0 ?_;refine aE (RT Tryz.results151 ?_);have hn:=bB0 ag (by simp at hb;omega);exact aO [] (.int .i64 0) (.bool false) rfl ⟨by rw[hn];rfl,by rw[hn];rfl⟩
  refine aG ?_;refine T0 (hK _ _ _ ?_);clear hK K;refine R0 ?_;refine aE (RT Tryz.results151 ?_);have hn:=aT1 ah ag (by simp at hb;omega);exact aO [] (.int .i64 n) (.bool true) rfl ⟨by rw[hn];rfl,by rw[hn];rfl⟩
 refine aC fun K hK=>Rg ?_;refine AU ?_;refine aH 8 rfl (fun U=>?_) (fun U=>?_)
 · have F:=U;refine AU ?_;refine T2 (hK _ _ _ ?_);clear hK K;refine CT rfl ?_;refine R0 ?_;refine aE (RT Tryz.results151 ?_);have hn:cU s=none:=qI (by simp only[iA,N7,C4];simp at U;left;left;omega);exact aO [] (.int .i64 0) (.bool false) rfl ⟨by rw[hn];rfl,by rw[hn];rfl⟩
 have F:=U;refine AU ?_;refine aH 12 rfl (fun I=>?_) (fun I=>?_)
 · have F:=aI U I;refine AU ?_;refine T2 (hK _ _ _ ?_);clear hK K;refine CT rfl ?_;refine R0 ?_;refine aE (RT Tryz.results151 ?_);have hn:cU s=none:=qI (by simp only[iA,N7,C4];simp at I;left;right;omega);exact aO [] (.int .i64 0) (.bool false) rfl ⟨by rw[hn];rfl,by rw[hn];rfl⟩
 have F:=aI U I;refine AU ?_;refine aH 17 rfl (fun aa=>?_) (fun aa=>?_)
 ·
  have F:=aI U (aI I aa);refine SF ?_;refine aX (g:=some (18,true)) rfl rfl fun K' ai=>T6 ?_;refine⟨by simp at aa;omega,?_⟩;refine AX (ai _ _ ?_);clear ai K';refine AU ?_;refine aH 21 rfl (fun J=>?_) (fun J=>?_)
  ·
   simp only[J];refine T2 (hK _ _ _ ?_);clear hK K;refine CT rfl ?_;refine R0 ?_;refine aE (RT Tryz.results151 ?_);have hn:cU s=none:=qI (by
    simp only[iA,N7,B3,C4,I6];right;refine⟨by simp at aa;omega,P7.1 ?_⟩;simp only[I6]at J;show(s.getD 0 0).toNat=48;omega)
   exact aO [] (.int .i64 0) (.bool false) rfl ⟨by rw[hn];rfl,by rw[hn];rfl⟩
  simp only[J];refine T2 (hK _ _ _ ?_);clear hK K;refine CF rfl ?_;refine aG (T3 ?_);refine key _ _ _ ?_ (fF);simp only[iA,M4,L9,B7,J2,AD];simp only[B7,C4]at U I;refine⟨⟨by omega,by omega⟩,?_⟩;first
   |(right;intro h0;rw[h0]at J;simp at J)
   |(left;simp at aa;omega)
 have F:=aI U (aI I aa);refine AU ?_;refine T2 (hK _ _ _ ?_);clear hK K;refine CF rfl ?_;refine aG (T3 ?_);refine key _ _ _ ?_ (fF);simp only[iA,M4,L9,B7,J2,AD];simp only[B7,C4]at U I;refine⟨⟨by omega,by omega⟩,?_⟩;first
  |(right;intro h0;rw[h0]at J;simp at J)
  |(left;simp at aa;omega)
theorem vN (s:aK):fH Tryz.prog 68 [.str s] (fun u v=>u= .int .i64 ((cU s).getD 0)∧v= .bool (cU s).isSome):=by
 refine FW Tryz.func68 ?_;refine R0 ?_;refine aC fun K hK=>?_;have key: ∀fr ob nx,iA s=false→Fits 0 fr ob (fin [(0,.c (.str s))]) (fob []) 100→K fr ob nx:=by
  intro fr ob nx ah hf;refine hK _ _ _ (aZ hf ?_);clear hf hK K;have hlen:s.length≤13:=by
   simp only[iA,M4,B7]at ah;omega
  refine R0 ?_;refine aC fun K hK=>?_;refine R0 ?_;refine aL ?_;refine bB (α:={y:Nat×Nat//DgSt s y.1 y.2}) (fun y=>(fin [(0,.c (.str s)),(4,.c (.int .i64 y.1.2)),(5,.c (.int .i64 y.1.1))],fob [])) 200 (fun y=>s.length-y.1.1) ⟨(0,0),DgSt.init s⟩ (fF) ?_;rintro⟨⟨i,n⟩,af⟩;simp only at af;have hi:=af.1;have an:=af.lt hlen;refine aC fun K hK=>?_;refine AU ?_;refine aJ (b:=decide ((i:Int)<s.length)) rfl (fun hb=>?_) (fun hb=>?_)
  ·
   have ae:i<s.length:=by simpa using hb
   clear hb;have hgd:s.getD i 0=s[i]:=by simp[ae]
   have ak:=bB1 s[i];refine aG ?_;refine T0 (hK _ _ _ ?_);clear hK K;refine aC fun K hK=>?_;refine aL ?_;refine aC fun K hK=>?_;have aj: ∀fr ob nx,mO s[i]=true→Fits 0 fr ob (fin [(0,.c (.str s)),(4,.c (.int .i64 n)),(5,.c (.int .i64 i))]) (fob []) 300→K fr ob nx:=by
    intro fr ob nx hd hf;refine hK _ _ _ (aZ hf ?_);clear hf hK K;have ao:48≤s[i].toNat∧s[i].toNat≤57:=by simpa[mO]using hd
    have e1:IntKind.i64.wrap (10*(n:Int))=((10*n:Nat):Int):=by rw[B0 _ (by omega)];omega
    have e2:IntKind.u8.wrap ((s[i].toNat:Int)-48)=((s[i].toNat-48:Nat):Int):=by rw[K7 _ (by omega)];omega
    have e3:IntKind.i64.wrap ((s[i].toNat-48:Nat):Int)=((s[i].toNat-48:Nat):Int):=by rw[B0 _ (by omega)]
    have e4:IntKind.i64.wrap (((10*n:Nat):Int)+((s[i].toNat-48:Nat):Int))=((10*n+(s[i].toNat-48):Nat):Int):=by rw[B0 _ (by omega)];omega
    refine Rg ?_;iterate 9 refine S0 ?_ (e:=fun _ h_=>by simp only[sH,↓sP,sA,tyS,simprocAttr,A1,A4,ae,hgd,e1,e2,e3,e4];exact AX h_)
    refine T2 (hK _ _ _ ?_);clear hK K;refine aM (by kernel_rfl) ?_;refine TQ (cW i) ?_;refine⟨⟨(i+1,10*n+(s[i].toNat-48)),af.next ae hd⟩,fF,?_⟩;show s.length-(i+1)<s.length-i;omega
   refine RS ?_;iterate 5 refine S0 ?_ (e:=fun _ h_=>by simp only[sH,↓sP,sA,tyS,simprocAttr,A1,A4,ae,hgd];exact AX h_)
   refine aH 32 rfl (fun ad=>?_) (fun ad=>?_)
   ·
    iterate 5 refine S0 ?_ (e:=fun _ h_=>by simp only[sH,↓sP,sA,tyS,simprocAttr,A1,A4,ae,hgd,ad];exact AX h_)
    refine RE ?_;refine CT rfl ?_;refine R0 ?_;refine aE (RT Tryz.results68 ?_);have hd:mO s[i]=false:=by simp only[mO,L9,B7];simp at ad;omega
    have hn:=rH (af.bad ae hd);exact aO [] (.int .i64 0) (.bool false) rfl ⟨by rw[hn];rfl,by rw[hn];rfl⟩
   iterate 5 refine S0 ?_ (e:=fun _ h_=>by simp only[sH,↓sP,sA,tyS,simprocAttr,A1,A4,ae,hgd,ad];exact AX h_)
   refine aH 37 rfl (fun ab=>?_) (fun ab=>?_)
   ·
    simp only[ab];refine RE ?_;refine CT rfl ?_;refine R0 ?_;refine aE (RT Tryz.results68 ?_);have hd:mO s[i]=false:=by simp only[mO,L9,B7];simp at ab;omega
    have hn:=rH (af.bad ae hd);exact aO [] (.int .i64 0) (.bool false) rfl ⟨by rw[hn];rfl,by rw[hn];rfl⟩
   simp only[ab];refine RE ?_;refine CF rfl ?_;refine aG (T3 ?_);exact aj _ _ _ (by simp only[mO,B3,C4];simp at ad ab;omega) (fF)
  refine aV (T3 ?_);clear hK K;refine AX (hK _ _ _ ?_);clear hK K;refine aC fun K hK=>?_;have ag:=af.fin (by simp at hb;omega);clear hb;refine R0 ?_;refine aJ (b:=decide ((1099511627776:Int)<(n:Int))) rfl (fun hb=>?_) (fun hb=>?_)
  · refine R0 ?_;refine aE (RT Tryz.results68 ?_);have hn:=bB0 ag (by simp at hb;omega);exact aO [] (.int .i64 0) (.bool false) rfl ⟨by rw[hn];rfl,by rw[hn];rfl⟩
  refine aG ?_;refine T0 (hK _ _ _ ?_);clear hK K;refine R0 ?_;refine aE (RT Tryz.results68 ?_);have hn:=aT1 ah ag (by simp at hb;omega);exact aO [] (.int .i64 n) (.bool true) rfl ⟨by rw[hn];rfl,by rw[hn];rfl⟩
 refine aC fun K hK=>Rg ?_;refine AU ?_;refine aH 7 rfl (fun J=>?_) (fun J=>?_)
 ·
  have F:=J;refine AU ?_;refine T2 (hK _ _ _ ?_);clear hK K;refine CT rfl ?_;refine R0 ?_;refine aE (RT Tryz.results68 ?_);have hs:s=[]:=by simpa using J
  subst hs;exact aO [] (.int .i64 0) (.bool false) rfl ⟨rfl,rfl⟩
 have F:=J;refine AU ?_;refine aH 11 rfl (fun U=>?_) (fun U=>?_)
 · have F:=aI J U;refine AU ?_;refine T2 (hK _ _ _ ?_);clear hK K;refine CT rfl ?_;refine R0 ?_;refine aE (RT Tryz.results68 ?_);have hn:cU s=none:=qI (by simp only[iA,N7,C4];simp at U;left;right;omega);exact aO [] (.int .i64 0) (.bool false) rfl ⟨by rw[hn];rfl,by rw[hn];rfl⟩
 have F:=aI J U;refine SF ?_;refine aX (g:=some (13,false)) rfl rfl fun K' ai=>T6 ?_;refine⟨by have:=J8.2 (show s≠[]by simpa using J);omega,?_⟩;refine AX (ai _ _ ?_);clear ai K';refine AU ?_;refine aH 16 rfl (fun I=>?_) (fun I=>?_)
 ·
  have F:=aI J (aI U I);refine AU ?_;refine aH 20 rfl (fun aa=>?_) (fun aa=>?_)
  ·
   simp only[aa];refine T2 (hK _ _ _ ?_);clear hK K;refine CT rfl ?_;refine R0 ?_;refine aE (RT Tryz.results68 ?_);have hn:cU s=none:=qI (by
    simp only[iA,N7,B3,C4,I6];right;refine⟨by simp at aa;omega,P7.1 ?_⟩;simp only[I6]at I;show(s.getD 0 0).toNat=48;omega)
   exact aO [] (.int .i64 0) (.bool false) rfl ⟨by rw[hn];rfl,by rw[hn];rfl⟩
  simp only[aa];refine T2 (hK _ _ _ ?_);clear hK K;refine CF rfl ?_;refine aG (T3 ?_);refine key _ _ _ ?_ (fF);have hs:=J8.2 (show s≠[]by simpa using J);simp only[iA,M4,L9,B7,J2,AD];simp only[B7,C4]at U;refine⟨⟨by omega,by omega⟩,?_⟩;first
   |(left;simp at aa;omega)
   |(right;intro h0;rw[h0]at I;simp at I)
 have F:=aI J (aI U I);refine AU ?_;refine T2 (hK _ _ _ ?_);clear hK K;refine CF rfl ?_;refine aG (T3 ?_);refine key _ _ _ ?_ (fF);have hs:=J8.2 (show s≠[]by simpa using J);simp only[iA,M4,L9,B7,J2,AD];simp only[B7,C4]at U;refine⟨⟨by omega,by omega⟩,?_⟩;first
  |(left;simp at aa;omega)
  |(right;intro h0;rw[h0]at I;simp at I)
theorem bC4 (c:UInt8):bM Tryz.prog 102 [.int .u8 c.toNat] (fun v=>v= .int .i64 (valH c:Nat)):=by
 refine FW Tryz.func102 ?_;refine R0 ?_;refine aC fun K U=>?_;refine aC fun K U=>Rg ?_;iterate 3 refine S0 ?_
 refine aH 4 rfl (fun aa=>?_) (fun aa=>?_)
 ·
  have F:=aa;iterate 3 refine SF ?_
  refine aH 7 rfl (fun ab=>?_) (fun ab=>?_)
  ·
   simp only[ab];refine T2 (U _ _ _ ?_);clear U K;refine CT rfl ?_;have e1:IntKind.u8.wrap ((c.toNat:Int)-48)=((c.toNat-48:Nat):Int):=by simp at aa ab;rw[K7 _ (by omega)];omega
   have e2:IntKind.i64.wrap ((c.toNat-48:Nat):Int)=((c.toNat-48:Nat):Int):=by have:=c.toNat_lt;rw[B0 _ (by omega)]
   refine aC fun K U=>Rg ?_;have F:=aI e1 (aI e2 (aI aa ab));iterate 4 refine SF ?_
   refine T2 (U _ _ _ ?_);clear U K;refine aE (RT Tryz.results102 ?_);refine aF [] _ rfl ?_;simp only[C4,B7]at*;refine congrArg (CV.int IntKind.i64) ?_;unfold valH;split<;>(try split)<;>omega
  simp only[ab];refine T2 (U _ _ _ ?_);clear U K;refine CF rfl ?_;refine aG ?_;refine T0 (U _ _ _ ?_);clear U K;refine aC fun K U=>?_;refine aC fun K U=>Rg ?_;have F:=aI aa ab;iterate 3 refine SF ?_
  refine aH 13 rfl (fun I=>?_) (fun I=>?_)
  ·
   have F:=aI aa (aI ab I);iterate 3 refine SF ?_
   refine aH 16 rfl (fun J=>?_) (fun J=>?_)
   ·
    simp only[J];refine T2 (U _ _ _ ?_);clear U K;refine CT rfl ?_;have e1:IntKind.u8.wrap ((c.toNat:Int)-65)=((c.toNat-65:Nat):Int):=by simp at I J;rw[K7 _ (by omega)];omega
    have e2:IntKind.i64.wrap ((c.toNat-65:Nat):Int)=((c.toNat-65:Nat):Int):=by have:=c.toNat_lt;rw[B0 _ (by omega)]
    have e3:IntKind.i64.wrap (((c.toNat-65:Nat):Int)+10)=((c.toNat-65+10:Nat):Int):=by have:=c.toNat_lt;rw[B0 _ (by omega)];omega
    refine aC fun K U=>Rg ?_;have F:=aI e1 (aI e2 (aI e3 (aI aa (aI ab (aI I J)))));iterate 5 refine SF ?_
    refine T2 (U _ _ _ ?_);clear U K;refine aE (RT Tryz.results102 ?_);refine aF [] _ rfl ?_;simp only[C4,B7]at*;refine congrArg (CV.int IntKind.i64) ?_;unfold valH;split<;>(try split)<;>omega
   simp only[J];refine T2 (U _ _ _ ?_);clear U K;refine CF rfl ?_;refine aG ?_;refine T0 (U _ _ _ ?_);clear U K;refine R0 ?_;refine aE (RT Tryz.results102 ?_);refine aF [] _ rfl ?_;simp only[C4,B7]at*;refine congrArg (CV.int IntKind.i64) ?_;unfold valH;split<;>(try split)<;>omega
  have F:=aI aa (aI ab I);iterate 3 refine SF ?_
  refine T2 (U _ _ _ ?_);clear U K;refine CF rfl ?_;refine aG ?_;refine T0 (U _ _ _ ?_);clear U K;refine R0 ?_;refine aE (RT Tryz.results102 ?_);refine aF [] _ rfl ?_;simp only[C4,B7]at*;refine congrArg (CV.int IntKind.i64) ?_;unfold valH;split<;>(try split)<;>omega
 have F:=aa;iterate 3 refine SF ?_
 refine T2 (U _ _ _ ?_);clear U K;refine CF rfl ?_;refine aG ?_;refine T0 (U _ _ _ ?_);clear U K;refine aC fun K U=>?_;refine aC fun K U=>Rg ?_;iterate 3 refine SF ?_
 refine aH 13 rfl (fun I=>?_) (fun I=>?_)
 ·
  have F:=aI aa I;iterate 3 refine SF ?_
  refine aH 16 rfl (fun J=>?_) (fun J=>?_)
  ·
   simp only[J];refine T2 (U _ _ _ ?_);clear U K;refine CT rfl ?_;have e1:IntKind.u8.wrap ((c.toNat:Int)-65)=((c.toNat-65:Nat):Int):=by simp at I J;rw[K7 _ (by omega)];omega
   have e2:IntKind.i64.wrap ((c.toNat-65:Nat):Int)=((c.toNat-65:Nat):Int):=by have:=c.toNat_lt;rw[B0 _ (by omega)]
   have e3:IntKind.i64.wrap (((c.toNat-65:Nat):Int)+10)=((c.toNat-65+10:Nat):Int):=by have:=c.toNat_lt;rw[B0 _ (by omega)];omega
   refine aC fun K U=>Rg ?_;have F:=aI e1 (aI e2 (aI e3 (aI aa (aI I J))));iterate 5 refine SF ?_
   refine T2 (U _ _ _ ?_);clear U K;refine aE (RT Tryz.results102 ?_);refine aF [] _ rfl ?_;simp only[C4,B7]at*;refine congrArg (CV.int IntKind.i64) ?_;unfold valH;split<;>(try split)<;>omega
  simp only[J];refine T2 (U _ _ _ ?_);clear U K;refine CF rfl ?_;refine aG ?_;refine T0 (U _ _ _ ?_);clear U K;refine R0 ?_;refine aE (RT Tryz.results102 ?_);refine aF [] _ rfl ?_;simp only[C4,B7]at*;refine congrArg (CV.int IntKind.i64) ?_;unfold valH;split<;>(try split)<;>omega
 have F:=aI aa I;iterate 3 refine SF ?_
 refine T2 (U _ _ _ ?_);clear U K;refine CF rfl ?_;refine aG ?_;refine T0 (U _ _ _ ?_);clear U K;refine R0 ?_;refine aE (RT Tryz.results102 ?_);refine aF [] _ rfl ?_;simp only[C4,B7]at*;refine congrArg (CV.int IntKind.i64) ?_;unfold valH;split<;>(try split)<;>omega
end Go.Proofs.YthedbjfipmkpiaaGreatDoor
namespace Go.Hl
open Go Go.Pl
section
variable {P:Program}{n k:Nat}{Q:eI}{fr:Fr}{ob:Ob}{nx:Nat}
end
def dB6 (P:Program)(f:FuncId)(args:List CV)(n:Nat)(T:TypeId)(l:List UInt8)(R:CV→List UInt8→Prop):Prop:=
 HFn P f (args.map .c++[.osl 0 n 0 1 n]) 1 (fob [(0,.box T (.c (.agg (l.map u8))))]) (fun r ob'=> ∃u l',r= .c u∧ob'=fob [(0,.box T (.c (.agg (l'.map u8))))]∧R u l')
theorem aE7 (args:List CV)(n:Nat)(T:TypeId)(v:CV):LocOk 1 (args.map .c++[.osl 0 n 0 1 n]) (fob [(0,.box T (.c v))]):=by
 refine⟨fun j h=>?_,fun id o h=>?_,HV.menL_append.2 ⟨HV.menL_c,by simp[HV.menL,HV.men]⟩⟩
 ·
  have:j=0:=by omega
  subst this;exact⟨_,rfl⟩
 ·
  simp only[fob_at,fob_nil]at h;split at h
  · rename_i e;subst e;cases h;exact⟨by omega,by simp[HO.men,HV.men]⟩
  · cases h
variable {R:CV→List UInt8→Prop}{T:TypeId}{ob:Ob}
theorem bY6 {P:Program}{av:List Nat}{f:FuncId}{nid id:Nat}{K:HV→Ob→Prop}{args:List CV}{n:Nat}{l:List UInt8}(h:dB6 P f args n T l R)(hid:ob id=some (.box T (.c (.agg (l.map u8)))))(aa:id∉av)(I:Free4 ob nid)
  (hK: ∀u J,R u J→K (.c u) (upd ob id (some (.box T (.c (.agg (J.map u8))))))):HCall P av f (args.map .c++[.osl id n 0 1 n]) ob nid K:=by
 have h0:sub [id] nid 0=id:=rfl;have ab: ∀(m:Nat→Nat) (a:List CV) (b:List HV),HV.renL m (a.map .c++b)=a.map .c++HV.renL m b:=by
  intro m a b;induction a with
  |nil=>rfl
  |cons x a ih=>simp only[B8,J4,HV.renL,HV.ren,ih]
 refine⟨[id],_,_,_,h,aE7 args n T _,⟨by simp,by simpa using aa⟩,by rw[ab];simp only[HV.renL,HV.ren,h0],fun j o U=>?_,fun r ad hR _=>?_⟩
 ·
  simp only[fob_at,fob_nil]at U;split at U
  · rename_i e;subst e;cases U;simpa[HO.ren,HV.ren]using hid
  · cases U
 ·
  obtain⟨u,J,rfl,rfl,hR⟩:=hR;have e2:bY ob [id] nid (fob [(0,.box T (.c (.agg (J.map u8))))])=upd ob id (some (.box T (.c (.agg (J.map u8))))):=by
   funext i;by_cases e:i=id
   · subst e;rw[aR];simp only[bY,K4,J5,G4,fob_at,I2,HO.ren,HV.ren]
   ·
    have e':(id==i)=false:=by simp;exact fun h=>e h.symm
    rw[bE _ _ e];simp only[bY,K4,e',Q5,P6];simp only[G9,L8];split
    ·
     rename_i hr;have h2:[id].length+(i-nid)≠0:=by simp
     rw[fob_at,A7 h2,fob_nil];exact(I.all i hr.1 hr.2).symm
    · rfl
  rw[e2];exact hK u J hR
theorem rL {I:List UInt8}{r:HV}(u:CV)(hr:(r.close ob []).norm= .c u)(J:ob 0=some (.box T (.c (.agg (I.map u8)))))(hR:R u I):
  gR 1 r ob (fun r ob'=> ∃u I,r= .c u∧ob'=fob [(0,.box T (.c (.agg (I.map u8))))]∧R u I):=by
 refine⟨[],id,.c u,_,⟨u,I,rfl,rfl,hR⟩,hr,fun _ _=>rfl,fun _ _ _ _ h=>h,by simp[HV.men],fun j o h=>?_⟩;simp only[fob_at,fob_nil]at h;split at h
 · rename_i e;subst e;cases h;refine⟨by omega,by simp[HO.men,HV.men],by simp,_,J,?_⟩;have U:(CV.agg (I.map u8)).denil= .agg (I.map u8):=cI1 I;simp only[HO.ren,HV.ren,HV.close,U,HV.norm,HV.toC]
 · cases h
end Go.Hl
namespace Go.Proofs.YthedbjfipmkpiaaGreatDoor
open Go Go.Hl Go.Pl
theorem cW1 (s p:aK):bM Tryz.prog 170 [.str s,.str p] (fun v=>v= .bool (prefB s p)):=by
 refine FW Tryz.func170 ?_;refine R0 ?_;refine aC fun K U=>Rg ?_;have F:=aI @A1 (aI @H1 (aI @G2.{0} @H6));refine AU ?_;refine aH 9 rfl (fun I=>?_) (fun I=>?_)
 ·
  have F:=aI @A1 (aI @H1 (aI @G2.{0} (aI @H6 I)));refine AU ?_;refine aX (g:=some (10,true)) rfl rfl fun K' J=>T6 ?_;refine⟨by simp at I;omega,?_⟩;refine AX (J _ _ ?_);clear J K';refine AU ?_;refine T2 (U _ _ _ ?_);clear U K;refine aE (RT Tryz.results170 ?_);have hle:p.length≤s.length:=by simp at I;omega
  exact aF [] (.bool (s.take p.length==p)) rfl (by unfold prefB;rw[show decide (p.length≤s.length)=true from by simpa using hle];rfl)
 have F:=aI @A1 (aI @H1 (aI @G2.{0} (aI @H6 I)));refine AU ?_;refine T2 (U _ _ _ ?_);clear U K;refine aE (RT Tryz.results170 ?_);have hle: ¬p.length≤s.length:=by simp at I;omega
 exact aF [] (.bool false) rfl (by unfold prefB;rw[show decide (p.length≤s.length)=false from by simpa using hle];rfl)
theorem cW2 (s p:aK):fH Tryz.prog 152 [.str s,.str p] (fun u v=>u= .str (if prefB s p then s.drop p.length else s)∧v= .bool (prefB s p)):=by
 refine FW Tryz.func152 ?_;refine R0 ?_;refine aC fun K U=>?_;refine AU ?_;refine SC (cW1 s p) ?_;refine AU ?_;refine aJ (b:=!(prefB s p)) rfl (fun J=>?_) (fun J=>?_)
 ·
  refine R0 ?_;refine aE (RT Tryz.results152 ?_);have hp:prefB s p=false:=by simpa using J
  exact aO [] (.str s) (.bool false) rfl ⟨by rw[hp];rfl,by rw[hp]⟩
 refine aG ?_;refine T0 (U _ _ _ ?_);clear U K;have hp:prefB s p=true:=by simpa using J
 have hle:p.length≤s.length:=by
  unfold prefB at hp;simp only[B3,C4]at hp;exact hp.1
 have I:List.take (s.length-p.length) (List.drop p.length s)=List.drop p.length s:=C8 (by simp);refine RS ?_;have F:=aI @A1 (aI @H1 (aI hle I));refine AU ?_;refine aE (RT Tryz.results152 ?_);exact aO [] (.str (s.drop p.length)) (.bool true) rfl ⟨by rw[hp];rfl,by rw[hp]⟩
theorem cK7 (s p:aK):fH Tryz.prog 126 [.str s,.str p] (fun u v=>u= .str (if prefB s p then s.drop p.length else s)∧v= .bool (prefB s p)):=by
 refine FW Tryz.func126 ?_;refine R0 ?_;refine aC fun K J=>Rg ?_;refine AU ?_;refine HS rfl rfl fun U I=>T5 ?_;refine D2 (cW2 s p) ?_;rintro u v ⟨rfl,rfl⟩;refine AX (I _ _ ?_);clear I U;refine AU ?_;refine T2 (J _ _ _ ?_);clear J K;refine aE (RT Tryz.results126 ?_);exact aO [] _ _ rfl ⟨rfl,rfl⟩
theorem cK8 (s:aK)(n:Nat)(T:TypeId)(l0:List UInt8)(h0:l0.length=n)(ay:1<n)(ax:n<1000)(hs:s.length<2^40):
  dB6 Tryz.prog 127 [.str s] n T l0 (fun u l'=>u= .bool (dC s n).isSome∧l'.length=n∧ ∀w,dC s n=some w→l'=w):=by
 refine bO Tryz.func127 rfl (by kernel_rfl) (aE7 [_] _ _ _) (C7 rfl) ?_;refine R0 ?_;refine aC fun K I=>?_;have aw:IntKind.i64.wrap (2*(n:Int))=((2*n:Nat):Int):=by rw[B0 _ (by omega)];omega
 have ag:(List.take n (l0.map u8)).length=n:=by simp[h0]
 refine RS ?_;have F:=aI h0 (aI @cI6 (aI @A0.{0,0} (aI @I1 (aI @E3 (aI @G2.{0} (aI @H6 (aI ag aw)))))));refine AU ?_;refine aJ (b:=(s.length:Int) !=((2*n:Nat):Int)) rfl (fun hb=>?_) (fun hb=>?_)
 · refine R0 ?_;refine aE (RT Tryz.results127 ?_);have U:dC s n=none:=tE (by simp at hb;omega);exact rL (.bool false) rfl rfl ⟨by rw[U];rfl,h0,fun w hw=>by rw[U]at hw;cases hw⟩
 refine aG ?_;refine T0 (I _ _ _ ?_);clear I K;refine aC fun K I=>?_;have hlen:s.length=2*n:=by simp at hb;omega
 clear hb;have F:=aI h0 (aI @cI6 (aI @A0.{0,0} (aI @I1 (aI @E3 (aI @G2.{0} (aI @H6 ag))))));refine RF ?_;refine aL ?_;refine bB (α:={y:Nat×List UInt8//UhSt s n y.1 y.2}) (fun y=>(fin [(0,.c (.str s)),(1,.osl 0 n 0 1 n),(15,.c (.int .i64 n)),(16,.c (.int .i64 y.1.1))],fob [(0,.box T (.c (.agg (y.1.2.map u8))))])) 100 (fun y=>n-y.1.1) ⟨(0,l0),UhSt.init s h0⟩ (fF) ?_;rintro⟨⟨i,l⟩,J⟩;simp only at J;have hi:=J.2.1;have ad:=J.1;refine R0 ?_;refine aC fun K I=>?_;refine aJ (b:=decide ((i:Int)<(n:Int))) rfl (fun hb=>?_) (fun hb=>?_)
 ·
  have ab:i<n:=by simp at hb;omega
  clear hb;have au:IntKind.i64.wrap (2*(i:Int))=((2*i:Nat):Int):=by rw[B0 _ (by omega)];omega
  have an:IntKind.i64.wrap (((2*i:Nat):Int)+1)=((2*i+1:Nat):Int):=by rw[B0 _ (by omega)];rfl
  have ar:s.getD (2*i) 0=hX s i:=rfl;have aj:s.getD (2*i+1) 0=hY s i:=rfl;have ah:2*i<s.length:=by omega
  have ao:2*i+1<s.length:=by omega
  refine aG ?_;refine T0 (I _ _ _ ?_);clear I K;refine aC fun K I=>?_;refine aL ?_;refine R0 ?_;refine aC fun K I=>DW [(0,[],[]),(1,[],[]),(2,[],[]),(3,[],[]),(5,[],[]),(6,[],[]),(7,[],[]),(8,[],[]),(9,[],[]),(4,[],[5,6,7,8,9]),(10,[],[]),(11,[],[]),(12,[],[])] [0,0,2,7,15,0,0,64,192,480,1023,2047,4095] ?_;have F:=aI @A1 (aI @A4 (aI au (aI an (aI ar (aI aj (aI ah ao))))));iterate 9 refine WF ?_
  refine bL (g:=none) rfl rfl fun K' aa=>T6 ?_;refine C2 (vM bP8 (hX s i)) ?_;rintro u rfl;refine AX (aa _ _ ?_);clear aa K';refine bL (g:=none) rfl rfl fun K' aa=>T6 ?_;refine C2 (vM bP8 (hY s i)) ?_;rintro u rfl;refine AX (aa _ _ ?_);clear aa K';iterate 2 refine WF ?_
  refine T2 (I _ _ _ ?_);clear I K;refine aC fun K I=>?_;by_cases hx:valL (hX s i)<16
  ·
   by_cases hy:valL (hY s i)<16
   ·
    rw[qN,qN,B1 hx,B1 hy];have ae:decide (((valL (hX s i):Nat):Int)<0)=false:=by simp
    have ak:decide (((valL (hY s i):Nat):Int)<0)=false:=by simp
    have e1:IntKind.i64.wrap (16*((valL (hX s i):Nat):Int))=((16*valL (hX s i):Nat):Int):=by rw[B0 _ (by omega)];omega
    have e2:IntKind.i64.wrap (((16*valL (hX s i):Nat):Int)+((valL (hY s i):Nat):Int))=((16*valL (hX s i)+valL (hY s i):Nat):Int):=by rw[B0 _ (by omega)];omega
    have e3:IntKind.u8.wrap ((16*valL (hX s i)+valL (hY s i):Nat):Int)=((hB s i).toNat:Int):=by rw[K7 _ (by omega),cI5 hx hy]
    have ai:i<l.length:=by omega
    have af:l.length≠1:=by omega
    refine RS ?_;have F:=aI ae ak;refine AU ?_;refine CF rfl ?_;refine aG ?_;refine T0 (I _ _ _ ?_);clear I K;refine Rg ?_;iterate 9 refine S0 ?_ (e:=fun _ h_=>by simp only[sH,↓sP,sA,tyS,simprocAttr,e1,e2,e3,A1,A4,E3,H6,F0,P4,ab,xH,bX5,ai,af,and_false,aS3];exact AX h_)
    refine T2 (I _ _ _ ?_);clear I K;refine aM (by kernel_rfl) ?_;refine TQ (cW i) ?_;refine⟨⟨(i+1,l.set i (hB s i)),J.next ab (by simp[hOk,hx,hy])⟩,fF,?_⟩;show n-(i+1)<n-i;omega
   rw[qN,qN,B1 hx,A7 hy];have ae:decide (((valL (hX s i):Nat):Int)<0)=false:=by simp
   refine RS ?_;have F:=ae;refine AU ?_;refine CT rfl ?_;refine R0 ?_;refine aE (RT Tryz.results127 ?_);have U:=J.bad ab (by simp[hOk,hx,hy]);exact rL (.bool false) rfl rfl ⟨by rw[U];rfl,ad,fun w hw=>by rw[U]at hw;cases hw⟩
  rw[qN,A7 hx];refine AU ?_;refine CT rfl ?_;refine R0 ?_;refine aE (RT Tryz.results127 ?_);have U:=J.bad ab (by simp[hOk,hx]);exact rL (.bool false) rfl rfl ⟨by rw[U];rfl,ad,fun w hw=>by rw[U]at hw;cases hw⟩
 refine aV (T3 ?_);clear I K;refine AX (I _ _ _ ?_);clear I K;refine R0 ?_;refine aE (RT Tryz.results127 ?_);have aq:i=n:=by simp at hb;omega
 subst aq;have U:=J.fin hlen;exact rL (.bool true) rfl rfl ⟨by rw[U];rfl,ad,fun w hw=>by rw[U]at hw;cases hw;rfl⟩
theorem rM (s:aK)(hs:s.length<2^40):fH Tryz.prog 97 [.str s] (fun u v=>u=dg ((eZ s).getD zdg)∧v= .bool (eZ s).isSome):=by
 refine FW Tryz.func97 ?_;refine R0 ?_;refine R0 ?_;refine aC fun K U=>Rg ?_;refine S0 ?_;refine HS rfl rfl fun K' I=>T5 ?_;refine D2 (cK7 s shaW) ?_;rintro u v ⟨rfl,rfl⟩;refine AX (I _ _ ?_);clear I K';refine AU ?_;refine T2 (U _ _ _ ?_);clear U K;refine aC fun K U=>?_;by_cases hp:prefB s shaW=true
 ·
  rw[hp,B1 rfl,show shaW.length=7 from rfl];refine aC fun K U=>Rg ?_;refine AU ?_;refine aX (g:=some (14,false)) rfl rfl fun K' I=>T5 ?_;refine bY6 (args:=[_]) (cK8 (s.drop 7) 32 44 (List.replicate 32 0) (by simp) (by omega) (by omega) (by rw[G8];omega)) rfl (by simp) ⟨rfl,rfl,rfl,rfl⟩ ?_;rintro u l' ⟨rfl,J,hw⟩;refine AX (I _ _ ?_);clear I K';refine AU ?_;refine T2 (U _ _ _ ?_);clear U K;refine aJ (b:=!(dC (s.drop 7) 32).isSome) rfl (fun hb=>?_) (fun hb=>?_)
  · have F:=aI @aN7 (aI @dg_setAt (aI @bG (aI @bH (aI @dP (aI @fX @pY)))));refine RF ?_;refine aE (RT Tryz.results97 ?_);have hn:eZ s=none:=oA (fun _=>by simpa using hb);exact aO [] zd (.bool false) rfl ⟨by rw[hn];rfl,by rw[hn];rfl⟩
  refine aG ?_;refine T0 (U _ _ _ ?_);clear U K;obtain⟨l,hl⟩:=G0.1 (show(dC (s.drop 7) 32).isSome=true by simpa using hb);have:=hw l hl;subst this;have hv:=xI hp hl J;have F:=aI @xH (aI J @dg_setAt);refine RF ?_;refine aE (RT Tryz.results97 ?_);simp only[xH,J,G4,I2];refine aO [] (dg (⟨l',J⟩:Dig)) (.bool true) ?_ ?_
  · simp[denilL_u8];rfl
  exact⟨by rw[hv];rfl,by rw[hv];rfl⟩
 have aa:prefB s shaW=false:=by simpa using hp
 rw[aa,A7 (by simp)];refine AU ?_;refine CT rfl ?_;have F:=aI @aN7 (aI @dg_setAt (aI @bG (aI @bH (aI @dP (aI @fX @pY)))));refine RF ?_;refine aE (RT Tryz.results97 ?_);have hn:eZ s=none:=oA (fun h=>absurd h hp);exact aO [] zd (.bool false) rfl ⟨by rw[hn];rfl,by rw[hn];rfl⟩
end Go.Proofs.YthedbjfipmkpiaaGreatDoor
