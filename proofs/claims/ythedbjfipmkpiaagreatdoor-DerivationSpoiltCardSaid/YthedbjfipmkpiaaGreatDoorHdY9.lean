/- Part of a proof: walks of functions of the program, by contracts, and the rules they use. By an AI agent. -/
import Derived.Test.YthedbjfipmkpiaaGreatDoorHdW8
set_option maxRecDepth 10000
set_option maxHeartbeats 16000000
set_option linter.unusedSimpArgs false
set_option linter.unusedVariables false
set_option linter.defProp false
namespace Go.Proofs.YthedbjfipmkpiaaGreatDoor
open Go Go.Hl Go.Pl
theorem tR (x y:Qs):CV.eqv x.cv y.cv=true↔x=y:=by
 cases x;cases y;simp[Qs.cv,CV.eqv,CV.eqvL,bI3];try grind
theorem tS (x y:Og):CV.eqv x.cv y.cv=true↔x=y:=by
 cases x;cases y;simp[Og.cv,CV.eqv,CV.eqvL,bI3];try grind
theorem xV {x:Qs}(h:CV.eqv x.cv x.cv=false):False:=by rw[(tR x x).2 rfl]at h;cases h
theorem xW {x:Og}(h:CV.eqv x.cv x.cv=false):False:=by rw[(tS x x).2 rfl]at h;cases h
theorem oS (w:aK):CV.ofTy Tryz.prog 7 9 (.str w)=true:=by unfold CV.ofTy;rw[ty9]
theorem oD (d:Dig):CV.ofTy Tryz.prog 7 44 (dg d)=true:=aS2 (n:=5) ty44 ty5 (by kernel_rfl) d
theorem cS :Tryz.prog.cellsOf 9=1:=by kernel_rfl
theorem cD :Tryz.prog.cellsOf 44=32:=by kernel_rfl
theorem oQ (x:Qs):CV.ofTy Tryz.prog 8 46 x.cv=true:=by
 unfold CV.ofTy;rw[ty46];show CV.ofTyF Tryz.prog 7 [(0,9),(1,9),(2,44)] [.str x.n,.str x.i,dg x.a]=true;simp only[CV.ofTyF,oS,oD,dg_cells,cS,cD,CV.cells,J5,E2]
theorem oO (x:Og):CV.ofTy Tryz.prog 8 48 x.cv=true:=by
 unfold CV.ofTy;rw[ty48];show CV.ofTyF Tryz.prog 7 [(0,44),(32,9),(33,9)] [dg x.v,.str x.l,.str x.r]=true;simp only[CV.ofTyF,oS,oD,dg_cells,cS,cD,CV.cells,J5,E2]
theorem cG (x y:Qs)(K:CV→Prop):kK Tryz.prog .eql 46 (.c x.cv) (.c y.cv) K=K (.bool (CV.eqv x.cv y.cv)):=by
 have J:=oQ x;have I:=oQ y;have U:aJ9 Tryz.prog 46=true:=by kernel_rfl
 simp only[Qs.cv]at J I⊢;simp only[kK,U,J,I,I4,Q9]
theorem cH (x y:Og)(K:CV→Prop):kK Tryz.prog .eql 48 (.c x.cv) (.c y.cv) K=K (.bool (CV.eqv x.cv y.cv)):=by
 have J:=oO x;have I:=oO y;have U:aJ9 Tryz.prog 48=true:=by kernel_rfl
 simp only[Og.cv]at J I⊢;simp only[kK,U,J,I,I4,Q9]
theorem xX {x y:Dv}(h1:x.q=y.q)(h2:(x.t==y.t)=true)(h3:(x.p==y.p)=true)(h4:(x.r==y.r)=true)(h5:x.o=y.o)(U:x.l=y.l):x=y:=by
 have J:=eq_of_beq h2;have I:=eq_of_beq h3;have e4:=eq_of_beq h4;cases x;cases y;simp only at h1 J I e4 h5 U;subst h1 J I e4 h5 U;rfl
theorem bT0 (x y:Dv)(ha:x.l.length<2^40)(hd: ∀z∈x.l,z.d.length<2^42∧z.f.length<2^40):bM Tryz.prog 28 [x.cv,y.cv] (fun v=> ∃c,v= .bool c∧(c=true↔x=y)):=by
 refine bO Tryz.func28 rfl (by kernel_rfl) (lL _) (C7 rfl) ?_;refine aC fun K hK=>aM (by kernel_rfl) ?_;simp (maxSteps:=4000000) only[↓sP,sA,tyS,simprocAttr];repeat refine AI ?_
 refine hK _ _ _ ?_;clear hK K;refine aC fun K hK=>aM (by kernel_rfl) ?_;simp only[sR,simprocAttr];iterate 6
  (refine aX (g:=none) rfl rfl fun K' I=>?_;simp only[sH,↓sP,sA,tyS,simprocAttr,cG,cH];(repeat refine AI ?_);refine I _ _ ?_;clear I K')
 refine aH 9 rfl (fun U=>?_) (fun U=>?_)
 ·
  iterate 5
   (refine aX (g:=some (10,true)) rfl rfl fun K' I=>?_;simp only[sH,↓sP,sA,tyS,simprocAttr,cG,cH,U];(repeat refine AI ?_);refine I _ _ ?_;clear I K')
  iterate 2
   (refine aX (g:=none) rfl rfl fun K' I=>?_;simp only[sH,↓sP,sA,tyS,simprocAttr,cG,cH,U];(repeat refine AI ?_);refine I _ _ ?_;clear I K')
  refine aH 15 rfl (fun J=>?_) (fun J=>?_)
  ·
   iterate 5
    (refine aX (g:=some (17,true)) rfl rfl fun K' I=>?_;simp only[sH,↓sP,sA,tyS,simprocAttr,cG,cH,U,J];(repeat refine AI ?_);refine I _ _ ?_;clear I K')
   iterate 2
    (refine aX (g:=none) rfl rfl fun K' I=>?_;simp only[sH,↓sP,sA,tyS,simprocAttr,cG,cH,U,J];(repeat refine AI ?_);refine I _ _ ?_;clear I K')
   refine aH 22 rfl (fun aa=>?_) (fun aa=>?_)
   ·
    iterate 5
     (refine aX (g:=some (24,true)) rfl rfl fun K' I=>?_;simp only[sH,↓sP,sA,tyS,simprocAttr,cG,cH,U,J,aa];(repeat refine AI ?_);refine I _ _ ?_;clear I K')
    iterate 2
     (refine aX (g:=none) rfl rfl fun K' I=>?_;simp only[sH,↓sP,sA,tyS,simprocAttr,cG,cH,U,J,aa];(repeat refine AI ?_);refine I _ _ ?_;clear I K')
    refine aH 29 rfl (fun ab=>?_) (fun ab=>?_)
    ·
     iterate 5
      (refine aX (g:=some (31,true)) rfl rfl fun K' I=>?_;simp only[sH,↓sP,sA,tyS,simprocAttr,cG,cH,U,J,aa,ab];(repeat refine AI ?_);refine I _ _ ?_;clear I K')
     iterate 2
      (refine aX (g:=none) rfl rfl fun K' I=>?_;simp only[sH,↓sP,sA,tyS,simprocAttr,cG,cH,U,J,aa,ab];(repeat refine AI ?_);refine I _ _ ?_;clear I K')
     refine aH 36 rfl (fun ad=>?_) (fun ad=>?_)
     ·
      iterate 4
       (refine aX (g:=some (38,true)) rfl rfl fun K' I=>?_;simp only[sH,↓sP,sA,tyS,simprocAttr,cG,cH,U,J,aa,ab,ad];(repeat refine AI ?_);refine I _ _ ?_;clear I K')
      refine aX (g:=some (38,true)) rfl rfl fun K' I=>?_;simp (maxSteps:=4000000) only[sH,↓sP,sA,tyS,simprocAttr,cG,cH,U,J,aa,ab,ad];refine jR (args:=[_,_]) (bZ2 x.l y.l ha hd) ⟨rfl,rfl,rfl,rfl⟩ ?_;rintro u ⟨c,rfl,hc⟩;repeat refine AI ?_
      refine I _ _ ?_;clear I K';iterate 2
       (refine aX (g:=none) rfl rfl fun K' I=>?_;simp only[sH,↓sP,sA,tyS,simprocAttr,cG,cH,U,J,aa,ab,ad];(repeat refine AI ?_);refine I _ _ ?_;clear I K')
      simp only[sE,↓reduceIte,simprocAttr];repeat refine AI ?_
      refine hK _ _ _ ?_;clear hK K;refine aE ?_;simp (maxSteps:=4000000) only[eR,Tryz.results28,eF,eQ,dY,↓sP,sA,tyS,simprocAttr];first
       |exact aF [] (.bool c) rfl ⟨c,rfl,⟨fun h=>xX ((tR _ _).1 U) J aa ab ((tS _ _).1 ad) (hc.1 h),fun h=>hc.2 (by rw[h])⟩⟩
       |skip
        refine aF [] (.bool false) rfl ⟨false,rfl,⟨fun h=>(by cases h),?_⟩⟩;rintro rfl;exfalso;first|exact xV U|(simp at J;done)|(simp at aa;done)|(simp at ab;done)|exact xW ad
     iterate 5
      (refine aX (g:=some (38,true)) rfl rfl fun K' I=>?_;simp only[sH,↓sP,sA,tyS,simprocAttr,cG,cH,U,J,aa,ab,ad];(repeat refine AI ?_);refine I _ _ ?_;clear I K')
     iterate 2
      (refine aX (g:=none) rfl rfl fun K' I=>?_;simp only[sH,↓sP,sA,tyS,simprocAttr,cG,cH,U,J,aa,ab,ad];(repeat refine AI ?_);refine I _ _ ?_;clear I K')
     simp only[sE,↓reduceIte,simprocAttr];repeat refine AI ?_
     refine hK _ _ _ ?_;clear hK K;refine aE ?_;simp (maxSteps:=4000000) only[eR,Tryz.results28,eF,eQ,dY,↓sP,sA,tyS,simprocAttr];first
      |exact aF [] (.bool c) rfl ⟨c,rfl,⟨fun h=>xX ((tR _ _).1 U) J aa ab ((tS _ _).1 ad) (hc.1 h),fun h=>hc.2 (by rw[h])⟩⟩
      |skip
       refine aF [] (.bool false) rfl ⟨false,rfl,⟨fun h=>(by cases h),?_⟩⟩;rintro rfl;exfalso;first|exact xV U|(simp at J;done)|(simp at aa;done)|(simp at ab;done)|exact xW ad
    iterate 5
     (refine aX (g:=some (31,true)) rfl rfl fun K' I=>?_;simp only[sH,↓sP,sA,tyS,simprocAttr,cG,cH,U,J,aa,ab];(repeat refine AI ?_);refine I _ _ ?_;clear I K')
    iterate 2
     (refine aX (g:=none) rfl rfl fun K' I=>?_;simp only[sH,↓sP,sA,tyS,simprocAttr,cG,cH,U,J,aa,ab];(repeat refine AI ?_);refine I _ _ ?_;clear I K')
    iterate 5
     (refine aX (g:=some (38,true)) rfl rfl fun K' I=>?_;simp only[sH,↓sP,sA,tyS,simprocAttr,cG,cH,U,J,aa,ab];(repeat refine AI ?_);refine I _ _ ?_;clear I K')
    iterate 2
     (refine aX (g:=none) rfl rfl fun K' I=>?_;simp only[sH,↓sP,sA,tyS,simprocAttr,cG,cH,U,J,aa,ab];(repeat refine AI ?_);refine I _ _ ?_;clear I K')
    simp only[sE,↓reduceIte,simprocAttr];repeat refine AI ?_
    refine hK _ _ _ ?_;clear hK K;refine aE ?_;simp (maxSteps:=4000000) only[eR,Tryz.results28,eF,eQ,dY,↓sP,sA,tyS,simprocAttr];first
     |exact aF [] (.bool c) rfl ⟨c,rfl,⟨fun h=>xX ((tR _ _).1 U) J aa ab ((tS _ _).1 ad) (hc.1 h),fun h=>hc.2 (by rw[h])⟩⟩
     |skip
      refine aF [] (.bool false) rfl ⟨false,rfl,⟨fun h=>(by cases h),?_⟩⟩;rintro rfl;exfalso;first|exact xV U|(simp at J;done)|(simp at aa;done)|(simp at ab;done)|exact xW ad
   iterate 5
    (refine aX (g:=some (24,true)) rfl rfl fun K' I=>?_;simp only[sH,↓sP,sA,tyS,simprocAttr,cG,cH,U,J,aa];(repeat refine AI ?_);refine I _ _ ?_;clear I K')
   iterate 2
    (refine aX (g:=none) rfl rfl fun K' I=>?_;simp only[sH,↓sP,sA,tyS,simprocAttr,cG,cH,U,J,aa];(repeat refine AI ?_);refine I _ _ ?_;clear I K')
   iterate 5
    (refine aX (g:=some (31,true)) rfl rfl fun K' I=>?_;simp only[sH,↓sP,sA,tyS,simprocAttr,cG,cH,U,J,aa];(repeat refine AI ?_);refine I _ _ ?_;clear I K')
   iterate 2
    (refine aX (g:=none) rfl rfl fun K' I=>?_;simp only[sH,↓sP,sA,tyS,simprocAttr,cG,cH,U,J,aa];(repeat refine AI ?_);refine I _ _ ?_;clear I K')
   iterate 5
    (refine aX (g:=some (38,true)) rfl rfl fun K' I=>?_;simp only[sH,↓sP,sA,tyS,simprocAttr,cG,cH,U,J,aa];(repeat refine AI ?_);refine I _ _ ?_;clear I K')
   iterate 2
    (refine aX (g:=none) rfl rfl fun K' I=>?_;simp only[sH,↓sP,sA,tyS,simprocAttr,cG,cH,U,J,aa];(repeat refine AI ?_);refine I _ _ ?_;clear I K')
   simp only[sE,↓reduceIte,simprocAttr];repeat refine AI ?_
   refine hK _ _ _ ?_;clear hK K;refine aE ?_;simp (maxSteps:=4000000) only[eR,Tryz.results28,eF,eQ,dY,↓sP,sA,tyS,simprocAttr];first
    |exact aF [] (.bool c) rfl ⟨c,rfl,⟨fun h=>xX ((tR _ _).1 U) J aa ab ((tS _ _).1 ad) (hc.1 h),fun h=>hc.2 (by rw[h])⟩⟩
    |skip
     refine aF [] (.bool false) rfl ⟨false,rfl,⟨fun h=>(by cases h),?_⟩⟩;rintro rfl;exfalso;first|exact xV U|(simp at J;done)|(simp at aa;done)|(simp at ab;done)|exact xW ad
  iterate 5
   (refine aX (g:=some (17,true)) rfl rfl fun K' I=>?_;simp only[sH,↓sP,sA,tyS,simprocAttr,cG,cH,U,J];(repeat refine AI ?_);refine I _ _ ?_;clear I K')
  iterate 2
   (refine aX (g:=none) rfl rfl fun K' I=>?_;simp only[sH,↓sP,sA,tyS,simprocAttr,cG,cH,U,J];(repeat refine AI ?_);refine I _ _ ?_;clear I K')
  iterate 5
   (refine aX (g:=some (24,true)) rfl rfl fun K' I=>?_;simp only[sH,↓sP,sA,tyS,simprocAttr,cG,cH,U,J];(repeat refine AI ?_);refine I _ _ ?_;clear I K')
  iterate 2
   (refine aX (g:=none) rfl rfl fun K' I=>?_;simp only[sH,↓sP,sA,tyS,simprocAttr,cG,cH,U,J];(repeat refine AI ?_);refine I _ _ ?_;clear I K')
  iterate 5
   (refine aX (g:=some (31,true)) rfl rfl fun K' I=>?_;simp only[sH,↓sP,sA,tyS,simprocAttr,cG,cH,U,J];(repeat refine AI ?_);refine I _ _ ?_;clear I K')
  iterate 2
   (refine aX (g:=none) rfl rfl fun K' I=>?_;simp only[sH,↓sP,sA,tyS,simprocAttr,cG,cH,U,J];(repeat refine AI ?_);refine I _ _ ?_;clear I K')
  iterate 5
   (refine aX (g:=some (38,true)) rfl rfl fun K' I=>?_;simp only[sH,↓sP,sA,tyS,simprocAttr,cG,cH,U,J];(repeat refine AI ?_);refine I _ _ ?_;clear I K')
  iterate 2
   (refine aX (g:=none) rfl rfl fun K' I=>?_;simp only[sH,↓sP,sA,tyS,simprocAttr,cG,cH,U,J];(repeat refine AI ?_);refine I _ _ ?_;clear I K')
  simp only[sE,↓reduceIte,simprocAttr];repeat refine AI ?_
  refine hK _ _ _ ?_;clear hK K;refine aE ?_;simp (maxSteps:=4000000) only[eR,Tryz.results28,eF,eQ,dY,↓sP,sA,tyS,simprocAttr];first
   |exact aF [] (.bool c) rfl ⟨c,rfl,⟨fun h=>xX ((tR _ _).1 U) J aa ab ((tS _ _).1 ad) (hc.1 h),fun h=>hc.2 (by rw[h])⟩⟩
   |skip
    refine aF [] (.bool false) rfl ⟨false,rfl,⟨fun h=>(by cases h),?_⟩⟩;rintro rfl;exfalso;first|exact xV U|(simp at J;done)|(simp at aa;done)|(simp at ab;done)|exact xW ad
 iterate 5
  (refine aX (g:=some (10,true)) rfl rfl fun K' I=>?_;simp only[sH,↓sP,sA,tyS,simprocAttr,cG,cH,U];(repeat refine AI ?_);refine I _ _ ?_;clear I K')
 iterate 2
  (refine aX (g:=none) rfl rfl fun K' I=>?_;simp only[sH,↓sP,sA,tyS,simprocAttr,cG,cH,U];(repeat refine AI ?_);refine I _ _ ?_;clear I K')
 iterate 5
  (refine aX (g:=some (17,true)) rfl rfl fun K' I=>?_;simp only[sH,↓sP,sA,tyS,simprocAttr,cG,cH,U];(repeat refine AI ?_);refine I _ _ ?_;clear I K')
 iterate 2
  (refine aX (g:=none) rfl rfl fun K' I=>?_;simp only[sH,↓sP,sA,tyS,simprocAttr,cG,cH,U];(repeat refine AI ?_);refine I _ _ ?_;clear I K')
 iterate 5
  (refine aX (g:=some (24,true)) rfl rfl fun K' I=>?_;simp only[sH,↓sP,sA,tyS,simprocAttr,cG,cH,U];(repeat refine AI ?_);refine I _ _ ?_;clear I K')
 iterate 2
  (refine aX (g:=none) rfl rfl fun K' I=>?_;simp only[sH,↓sP,sA,tyS,simprocAttr,cG,cH,U];(repeat refine AI ?_);refine I _ _ ?_;clear I K')
 iterate 5
  (refine aX (g:=some (31,true)) rfl rfl fun K' I=>?_;simp only[sH,↓sP,sA,tyS,simprocAttr,cG,cH,U];(repeat refine AI ?_);refine I _ _ ?_;clear I K')
 iterate 2
  (refine aX (g:=none) rfl rfl fun K' I=>?_;simp only[sH,↓sP,sA,tyS,simprocAttr,cG,cH,U];(repeat refine AI ?_);refine I _ _ ?_;clear I K')
 iterate 5
  (refine aX (g:=some (38,true)) rfl rfl fun K' I=>?_;simp only[sH,↓sP,sA,tyS,simprocAttr,cG,cH,U];(repeat refine AI ?_);refine I _ _ ?_;clear I K')
 iterate 2
  (refine aX (g:=none) rfl rfl fun K' I=>?_;simp only[sH,↓sP,sA,tyS,simprocAttr,cG,cH,U];(repeat refine AI ?_);refine I _ _ ?_;clear I K')
 simp only[sE,↓reduceIte,simprocAttr];repeat refine AI ?_
 refine hK _ _ _ ?_;clear hK K;refine aE ?_;simp (maxSteps:=4000000) only[eR,Tryz.results28,eF,eQ,dY,↓sP,sA,tyS,simprocAttr];first
  |exact aF [] (.bool c) rfl ⟨c,rfl,⟨fun h=>xX ((tR _ _).1 U) J aa ab ((tS _ _).1 ad) (hc.1 h),fun h=>hc.2 (by rw[h])⟩⟩
  |skip
   refine aF [] (.bool false) rfl ⟨false,rfl,⟨fun h=>(by cases h),?_⟩⟩;rintro rfl;exfalso;first|exact xV U|(simp at J;done)|(simp at aa;done)|(simp at ab;done)|exact xW ad
variable {ob:Ob}
theorem wF {cl:List Nat}(L:List Int)(a:Nat):((HV.c (tp L a)).close ob cl).norm=HV.c (tp L a):=by
 simp[tp,denilL_int]
theorem cZ7 (L:List Int)(a:Nat)(ha:a<2^38):aI4 Tryz.prog 58 76 (tp L a) [] (fun u v'=> ∃(w:aK) (a':Nat),u= .str w∧w.length≤20∧v'=tp L a'∧a'≤a+4):=by
 refine bO Tryz.func58 rfl (by kernel_rfl) (gU _ _ _) (C7 rfl) ?_;refine R0 ?_;refine R0 ?_;refine aC fun K J=>?_;refine aC fun K J=>Rg ?_;refine S0 ?_;refine HS rfl rfl fun U I=>T5 ?_;refine bP (args:=[_]) (dS L a 3 (by omega) (by omega)) rfl (by simp) ⟨rfl,rfl,rfl,rfl⟩ ?_;rintro u v' ⟨y,a1,rfl,rfl,g1,g2,g3,g4⟩;obtain⟨m,rfl⟩: ∃m:Nat,y=m:=⟨y.toNat,by omega⟩;have hm:m≤2:=by have:=g4 (by omega);omega
 clear g2 g3 g4;refine AX (I _ _ ?_);clear I U;refine S0 ?_;refine T2 (J _ _ _ ?_);clear J K;refine aL ?_;refine bB (α:={z:Nat×aK×Nat//z.2.1.length+8*z.1≤16∧z.2.2+z.1≤a1+2}) (fun z=>(fin [(0,.ptr 0 0),(3,.c (.str z.1.2.1)),(4,.c (.int .i64 z.1.1))],fob [(0,.box 76 (.c (tp L z.1.2.2)))])) 200 (fun z=>z.1.1) ⟨(m,[],a1),by simp;omega,by simp;omega⟩ (fF) ?_;rintro⟨⟨n,w,a2⟩,ad,ab⟩;simp only at ad ab⊢;refine aC fun K J=>?_;refine R0 ?_;refine aJ (b:=decide ((0:Int)<n)) rfl (fun hb=>?_) (fun hb=>?_)
 ·
  have hn:0<n:=by have:=F9 hb;omega
  clear hb;refine aG ?_;refine T0 (J _ _ _ ?_);clear J K;refine aC fun K J=>?_;refine aL ?_;refine aY (by kernel_rfl) ?_;simp only[sR,simprocAttr];iterate 2 refine SG0 ?_
  refine cN (g:=none) 216 rfl rfl fun U I=>?_;simp only[gH,kC,sH,↓sP,sA,tyS,simprocAttr];repeat refine AI ?_
  refine cO (by first|rfl|simp) ?_;try simp only[sH,↓sP,sA,tyS,simprocAttr]
  refine AX (I _ _ ?_);clear I U;refine cE (g:=none) rfl rfl fun U I=>T5 ?_;refine bP (args:=[_]) (wE L a2 [[97],[98],[115,114,99],[111,117,116],[108,105,98]] (by omega) (by decide)) rfl (by simp) ⟨rfl,rfl,rfl,rfl⟩ ?_;rintro u v' ⟨q,a3,rfl,hq,rfl,h3⟩;have aa:q.length≤3:=by
   simp only[E0,H7,N6]at hq;rcases hq with rfl|rfl|rfl|rfl|rfl<;>decide
  refine AX (I _ _ ?_);clear I U;iterate 3 refine SG0 ?_
  refine T2 (J _ _ _ ?_);clear J K;refine aM (by kernel_rfl) ?_;refine TQ (show IntKind.i64.wrap ((n:Int)-1)=((n-1:Nat):Int)from by rw[B0 _ (by omega)];omega) ?_;refine⟨⟨(n-1,w++q++[47],a3),by simp;omega,by simp only;omega⟩,(fF),by simp only;omega⟩
 clear hb;refine aV (T3 ?_);clear J K;refine AX (J _ _ _ ?_);clear J K;refine aC fun K J=>aY (by kernel_rfl) ?_;simp only[sR,simprocAttr];iterate 2 refine SG0 ?_
 refine cN (g:=none) 216 rfl rfl fun U I=>?_;simp only[gH,kC,sH,↓sP,sA,tyS,simprocAttr];repeat refine AI ?_
 refine cO (by first|rfl|simp) ?_;try simp only[sH,↓sP,sA,tyS,simprocAttr]
 refine AX (I _ _ ?_);clear I U;refine cE (g:=none) rfl rfl fun U I=>T5 ?_;refine bP (args:=[_]) (wE L a2 [[97],[98],[97,46,99],[98,46,104],[120],[111,117,116]] (by omega) (by decide)) rfl (by simp) ⟨rfl,rfl,rfl,rfl⟩ ?_;rintro u v' ⟨q,a3,rfl,hq,rfl,h3⟩;have aa:q.length≤3:=by
  simp only[E0,H7,N6]at hq;rcases hq with rfl|rfl|rfl|rfl|rfl|rfl<;>decide
 refine AX (I _ _ ?_);clear I U;iterate 2 refine SG0 ?_
 refine T2 (J _ _ _ ?_);clear J K;refine aE (RT Tryz.results58 ?_);exact iZ [] (.str (w++q)) (tp L a3) rfl rfl (wF L a3) (by simp) ⟨_,a3,rfl,by simp;omega,rfl,by omega⟩
theorem cQ2 (L:List Int)(a:Nat)(ha:a<2^40):aI4 Tryz.prog 59 76 (tp L a) [] (fun u v'=> ∃(d:Dig) (J:Nat),u=dg d∧v'=tp L J∧J≤a+1):=by
 refine bO Tryz.func59 rfl (by kernel_rfl) (gU _ _ _) (C7 rfl) ?_;refine R0 ?_;refine aC fun K hK=>Rg ?_;refine S0 ?_;refine HS rfl rfl fun U I=>T5 ?_;refine bP (args:=[_]) (dS L a 6 (by omega) (by omega)) rfl (by simp) ⟨rfl,rfl,rfl,rfl⟩ ?_;rintro u v' ⟨x,J,rfl,rfl,h1,h2,h3,h4⟩;have h5:=h4 (by omega);have e1:IntKind.i64.wrap (1+x)=1+x:=B0 _ (by omega);have e2:IntKind.u8.wrap (1+x)=1+x:=K7 _ (by omega);refine AX (I _ _ ?_);clear I U;have F:=aI e1 (aI e2 (aI @dg_cells (aI @dP (aI @bG @bH))));refine AU ?_;refine HS rfl rfl fun U I=>T6 ?_;rw[wU (show 0≤1+x by omega) (by omega)];refine AX (I _ _ ?_);clear I U;refine SF ?_;refine T2 (hK _ _ _ ?_);clear hK K;refine aE (RT Tryz.results59 ?_);exact iZ [] (dg (dg1 (UInt8.ofNat (1+x).toNat))) (tp L J) (by simp[dg_denil]) rfl (wF L J) (by simp) ⟨_,J,rfl,rfl,h1⟩
theorem cB7 (L:List Int)(a:Nat)(ha:a<2^38):aI4 Tryz.prog 60 76 (tp L a) [] (fun u v'=> ∃(o:Og) (a':Nat),u=o.cv∧o.l.length≤4∧o.r.length≤4∧v'=tp L a'∧a'≤a+3):=by
 refine bO Tryz.func60 rfl (by kernel_rfl) (gU _ _ _) (C7 rfl) ?_;refine R0 ?_;refine aC fun K hK=>aY (by kernel_rfl) ?_;simp only[sR,simprocAttr];refine SG0 ?_;refine cE (g:=none) rfl rfl fun J I=>T5 ?_;refine bP (args:=[_]) (dS L a 2 (by omega) (by omega)) rfl (by simp) ⟨rfl,rfl,rfl,rfl⟩ ?_;rintro u v' ⟨x,a1,rfl,rfl,h1,h2,h3,h4⟩;have h5:=h4 (by omega);have e1:IntKind.i64.wrap (1+x)=1+x:=B0 _ (by omega);have U:IntKind.u8.wrap (1+x)=1+x:=K7 _ (by omega);refine AX (I _ _ ?_);clear I J;have F:=aI e1 U;iterate 3 refine SGF ?_
 refine cE (g:=none) rfl rfl fun J I=>T6 ?_;rw[wU (show 0≤1+x by omega) (by omega)];refine AX (I _ _ ?_);clear I J;refine cN (g:=none) 29 rfl rfl fun J I=>?_;simp only[gH,kC,sH,↓sP,sA,tyS,simprocAttr,e1,U];repeat refine AI ?_
 refine cO (by first|rfl|simp) ?_;try simp only[sH,↓sP,sA,tyS,simprocAttr,e1,U]
 refine AX (I _ _ ?_);clear I J;refine cE (g:=none) rfl rfl fun J I=>T6 ?_;refine bP (args:=[_]) (wE L a1 [[115,104,111,112],[119,101,98]] (by omega) (by decide)) rfl (by simp) ⟨rfl,rfl,rfl,rfl⟩ ?_;rintro u v' ⟨p,a2,rfl,hp,rfl,h6⟩;refine AX (I _ _ ?_);clear I J;refine SGF ?_;refine cN (g:=none) 41 rfl rfl fun J I=>?_;simp only[gH,kC,sH,↓sP,sA,tyS,simprocAttr,e1,U];repeat refine AI ?_
 refine cO (by first|rfl|simp) ?_;try simp only[sH,↓sP,sA,tyS,simprocAttr,e1,U]
 refine AX (I _ _ ?_);clear I J;refine cE (g:=none) rfl rfl fun J I=>T6 ?_;refine bP (args:=[_]) (wE L a2 [[114],[115]] (by omega) (by decide)) rfl (by simp) ⟨rfl,rfl,rfl,rfl⟩ ?_;rintro u v' ⟨q,a3,rfl,hq,rfl,h7⟩;have ab:p.length≤4:=by
  simp only[E0,H7,N6]at hp;rcases hp with rfl|rfl<;>decide
 have aa:q.length≤4:=by
  simp only[E0,H7,N6]at hq;rcases hq with rfl|rfl<;>decide
 refine AX (I _ _ ?_);clear I J;iterate 2 refine SGF ?_
 refine T2 (hK _ _ _ ?_);clear hK K;refine aE (RT Tryz.results60 ?_);exact iZ [] (Og.cv ⟨dg1 (UInt8.ofNat (1+x).toNat),p,q⟩) (tp L a3) (by simp[Og.denil]) rfl (wF L a3) (by simp) ⟨_,a3,rfl,ab,aa,rfl,by omega⟩
variable {d:Dv}
theorem cZ8 (h:SmallD d):DvW d:=by
 have hf:=h.fine;simp only[jU,B3]at hf;have h1:=(eX _).1 hf.1.1;have h2:=(eX _).1 hf.1.2;have h3:=h.lines;have h4:=h.docs;have h5:=rQ d.l;refine⟨⟨by omega,by omega⟩,⟨by omega,by omega⟩,fun x hx=>?_,?_,by omega⟩
 ·
  have I:=G5.1 hf.2 x hx;have J:=(zR I).2;have ab:=R6 (aU5 hx) h.refs;have aa:x.d.length≤(fQ d.l).length:=by
   obtain⟨p,q,U⟩:=List.append_of_mem hx;rw[U];simp[fQ];omega
  have hk:1≤x.k∧x.k≤5:=by
   unfold cP at I;simp only[B3]at I;have:=I.1.1;simp[inB]at this;exact this
  have hn:=J x.n (by simp);exact⟨⟨by omega,by omega⟩,⟨by omega,by omega⟩,fun n hn=>by have:=J n (by simp[hn]);exact⟨by omega,by omega⟩,by omega,by omega⟩
 rw[fV,A3,h5];have:(lA d).length=2:=rfl;omega
theorem cB8 (L:List Int)(a:Nat)(ha:a<2^36):aI4 Tryz.prog 26 76 (tp L a) [] (fun u U=> ∃(d:Dv) (a':Nat),u=d.cv∧U=tp L a'∧SmallD d):=by
 refine bO Tryz.func26 rfl (by kernel_rfl) (gU _ _ _) (C7 rfl) ?_;refine R0 ?_;refine aC fun K hK=>Rg ?_;refine S0 ?_;refine HS rfl rfl fun J I=>T5 ?_;refine bP (args:=[]) (cB4 L a (by omega)) rfl (by simp) ⟨rfl,rfl,rfl,rfl⟩ ?_;rintro u U ⟨T,a1,rfl,rfl,hT,ae⟩;have hI:=cW9 hT;have hN:=aP0 hI;have ab:=cX3 hT;have aa:(eB T).length≤16:=by rw[mI (bD2 hI),iO];exact hI.lv
 refine AX (I _ _ ?_);clear I J;refine S0 ?_;refine T2 (hK _ _ _ ?_);clear hK K;refine aC fun K hK=>Rg ?_;have F:=aI @denilL_Nd @denilL_Sp;refine AU ?_;refine HS rfl rfl fun J I=>T6 ?_;refine bP (args:=[_,_]) (bF8 L a1 T hN aa 9 (by omega) (by omega)) rfl (by simp) ⟨rfl,rfl,rfl,rfl⟩ ?_;rintro u U ⟨S,a2,rfl,rfl,hS,hd,aj⟩;refine AX (I _ _ ?_);clear I J;refine HS rfl rfl fun J I=>T6 ?_;refine D2 (cB6 T hN S (by omega) (fun x hx=>by have:=hd x hx;omega)) ?_;rintro u v ⟨rfl,rfl⟩;refine AX (I _ _ ?_);clear I J;refine AU ?_;refine T2 (hK _ _ _ ?_);clear hK K;refine aC fun K hK=>Rg ?_;refine S0 ?_;refine HS rfl rfl fun J I=>T5 ?_;refine bP (args:=[]) (cZ7 L a2 (by omega)) rfl (by simp) ⟨rfl,rfl,rfl,rfl⟩ ?_;rintro u U ⟨w,a3,rfl,hw,rfl,ai⟩;refine AX (I _ _ ?_);clear I J;refine S0 ?_;refine HS rfl rfl fun J I=>T5 ?_;refine bP (args:=[]) (cQ2 L a3 (by omega)) rfl (by simp) ⟨rfl,rfl,rfl,rfl⟩ ?_;rintro u U ⟨d1,a4,rfl,rfl,ag⟩;refine AX (I _ _ ?_);clear I J;refine AU ?_;refine HS rfl rfl fun J I=>T5 ?_;refine bP (args:=[_]) (dS L a4 90 (by omega) (by omega)) rfl (by simp) ⟨rfl,rfl,rfl,rfl⟩ ?_;rintro u U ⟨t,a5,rfl,rfl,h1,h2,h3,h4⟩;refine AX (I _ _ ?_);clear I J;refine S0 ?_;refine HS rfl rfl fun J I=>T5 ?_;refine bP (args:=[]) (cQ2 L a5 (by omega)) rfl (by simp) ⟨rfl,rfl,rfl,rfl⟩ ?_;rintro u U ⟨d2,a6,rfl,rfl,af⟩;refine AX (I _ _ ?_);clear I J;refine S0 ?_;refine HS rfl rfl fun J I=>T5 ?_;refine bP (args:=[_]) (dS L a6 3 (by omega) (by omega)) rfl (by simp) ⟨rfl,rfl,rfl,rfl⟩ ?_;rintro u U ⟨r,a7,rfl,rfl,k1,k2,k3,k4⟩;refine AX (I _ _ ?_);clear I J;refine S0 ?_;refine HS rfl rfl fun J I=>T5 ?_;refine bP (args:=[]) (cB7 L a7 (by omega)) rfl (by simp) ⟨rfl,rfl,rfl,rfl⟩ ?_;rintro u U ⟨o,a8,rfl,ah,ak,rfl,ad⟩;refine AX (I _ _ ?_);clear I J;refine AU ?_;refine T2 (hK _ _ _ ?_);clear hK K;refine aE (RT Tryz.results26 ?_);exact iZ [] (Dv.cv ⟨⟨w,[119,101,98],d1⟩,t,d2,r,o,eL T S⟩) (tp L a8) (by simp[Dv.denil]) rfl (wF L a8) (by simp) ⟨_,a8,rfl,rfl,bL3 ab hd rfl ⟨h2,by have:=h4 (by omega);show t≤1000;omega⟩ ⟨k2,by have:=k4 (by omega);show r≤1000;omega⟩ (by show w.length≤100;omega) (by show 3≤100;decide) (by show o.l.length≤100;omega) (by show o.r.length≤100;omega)⟩
theorem cQ3 {ls:List (List aK)}(h:jN ls=0):(jZ ls).length≤262144:=by
 rw[jZ,B1 h];unfold jN at h;split at h
 · cases h
 split at h
 · rename_i l hl;have:=AS hl;simp[okL,h]at this
 split at h
 · cases h
 omega
theorem cZ9 (h:dvE d=0):(dvO d).length<2^40:=by
 obtain⟨_,I,J⟩:=aT8 h;have:=cQ3 I;rw[J];omega
def hBs (s:aK)(i:Nat):List UInt8:=(List.range i).map (hB s)
theorem bT1 (s:aK)(i:Nat):(hBs s i).length=i:=by simp[hBs]
theorem cQ4 (s:aK):hBs s 0=[]:=rfl
theorem cQ5 (s:aK)(i:Nat):hBs s (i+1)=hBs s i++[hB s i]:=by simp[hBs,X9]
theorem aQ1 (c:UInt8):bM Tryz.prog 129 [.int .u8 c.toNat] (fun v=>v= .int .i64 (valL c:Nat)):=by
 refine FW Tryz.func129 ?_;refine R0 ?_;refine aC fun K hK=>?_;refine AU ?_;refine aH 4 rfl (fun U=>?_) (fun U=>?_)
 ·
  have F:=U;refine AU ?_;refine aH 7 rfl (fun aa=>?_) (fun aa=>?_)
  ·
   simp only[aa];refine RE ?_;refine CT rfl ?_;have e1:IntKind.u8.wrap ((c.toNat:Int)-48)=((c.toNat-48:Nat):Int):=by simp at U aa;rw[K7 _ (by omega)];omega
   have e2:IntKind.i64.wrap ((c.toNat-48:Nat):Int)=((c.toNat-48:Nat):Int):=by have:=c.toNat_lt;rw[B0 _ (by omega)]
   refine RS ?_;have F:=aI e1 (aI e2 (aI U aa));refine AU ?_;refine aE (RT Tryz.results129 ?_);refine aF [] _ rfl ?_;simp only[C4,B7]at*;refine congrArg (CV.int IntKind.i64) ?_;unfold valL;split<;>(try split)<;>omega
  simp only[aa];refine RE ?_;refine CF rfl ?_;refine aG ?_;refine T0 (hK _ _ _ ?_);clear hK K;refine aC fun K hK=>?_;refine RS ?_;have F:=aI U aa;refine AU ?_;refine aH 13 rfl (fun I=>?_) (fun I=>?_)
  ·
   have F:=aI U (aI aa I);refine AU ?_;refine aH 16 rfl (fun J=>?_) (fun J=>?_)
   ·
    simp only[J];refine RE ?_;refine CT rfl ?_;have e1:IntKind.u8.wrap ((c.toNat:Int)-97)=((c.toNat-97:Nat):Int):=by simp at I J;rw[K7 _ (by omega)];omega
    have e2:IntKind.i64.wrap ((c.toNat-97:Nat):Int)=((c.toNat-97:Nat):Int):=by have:=c.toNat_lt;rw[B0 _ (by omega)]
    have e3:IntKind.i64.wrap (((c.toNat-97:Nat):Int)+10)=((c.toNat-97+10:Nat):Int):=by have:=c.toNat_lt;rw[B0 _ (by omega)];omega
    refine RS ?_;have F:=aI e1 (aI e2 (aI e3 (aI U (aI aa (aI I J)))));refine AU ?_;refine aE (RT Tryz.results129 ?_);refine aF [] _ rfl ?_;simp only[C4,B7]at*;refine congrArg (CV.int IntKind.i64) ?_;unfold valL;split<;>(try split)<;>omega
   simp only[J];refine RE ?_;refine CF rfl ?_;refine aG ?_;refine T0 (hK _ _ _ ?_);clear hK K;refine R0 ?_;refine aE (RT Tryz.results129 ?_);refine aF [] _ rfl ?_;simp only[C4,B7]at*;refine congrArg (CV.int IntKind.i64) ?_;unfold valL;split<;>(try split)<;>omega
  have F:=aI U (aI aa I);refine AU ?_;refine CF rfl ?_;refine aG ?_;refine T0 (hK _ _ _ ?_);clear hK K;refine R0 ?_;refine aE (RT Tryz.results129 ?_);refine aF [] _ rfl ?_;simp only[C4,B7]at*;refine congrArg (CV.int IntKind.i64) ?_;unfold valL;split<;>(try split)<;>omega
 have F:=U;refine AU ?_;refine CF rfl ?_;refine aG ?_;refine T0 (hK _ _ _ ?_);clear hK K;refine aC fun K hK=>?_;refine AU ?_;refine aH 13 rfl (fun I=>?_) (fun I=>?_)
 ·
  have F:=aI U I;refine AU ?_;refine aH 16 rfl (fun J=>?_) (fun J=>?_)
  ·
   simp only[J];refine RE ?_;refine CT rfl ?_;have e1:IntKind.u8.wrap ((c.toNat:Int)-97)=((c.toNat-97:Nat):Int):=by simp at I J;rw[K7 _ (by omega)];omega
   have e2:IntKind.i64.wrap ((c.toNat-97:Nat):Int)=((c.toNat-97:Nat):Int):=by have:=c.toNat_lt;rw[B0 _ (by omega)]
   have e3:IntKind.i64.wrap (((c.toNat-97:Nat):Int)+10)=((c.toNat-97+10:Nat):Int):=by have:=c.toNat_lt;rw[B0 _ (by omega)];omega
   refine RS ?_;have F:=aI e1 (aI e2 (aI e3 (aI U (aI I J))));refine AU ?_;refine aE (RT Tryz.results129 ?_);refine aF [] _ rfl ?_;simp only[C4,B7]at*;refine congrArg (CV.int IntKind.i64) ?_;unfold valL;split<;>(try split)<;>omega
  simp only[J];refine RE ?_;refine CF rfl ?_;refine aG ?_;refine T0 (hK _ _ _ ?_);clear hK K;refine R0 ?_;refine aE (RT Tryz.results129 ?_);refine aF [] _ rfl ?_;simp only[C4,B7]at*;refine congrArg (CV.int IntKind.i64) ?_;unfold valL;split<;>(try split)<;>omega
 have F:=aI U I;refine AU ?_;refine CF rfl ?_;refine aG ?_;refine T0 (hK _ _ _ ?_);clear hK K;refine R0 ?_;refine aE (RT Tryz.results129 ?_);refine aF [] _ rfl ?_;simp only[C4,B7]at*;refine congrArg (CV.int IntKind.i64) ?_;unfold valL;split<;>(try split)<;>omega
theorem cB9 (s:aK)(n:Nat)(hn:n<1000):fH Tryz.prog 99 [.str s,.int .i64 n] (fun u v=>u= .slc (((dC s n).getD []).map u8)∧v= .bool (dC s n).isSome):=by
 have au:IntKind.i64.wrap (2*(n:Int))=((2*n:Nat):Int):=by rw[B0 _ (by omega)];omega
 refine FW Tryz.func99 ?_;refine R0 ?_;refine aC fun K U=>?_;refine RS ?_;have F:=au;refine AU ?_;refine aJ (b:=(s.length:Int) !=((2*n:Nat):Int)) rfl (fun hb=>?_) (fun hb=>?_)
 · refine R0 ?_;refine aE (RT Tryz.results99 ?_);have hv:dC s n=none:=tE (by simp at hb;omega);refine aO [] (.slc []) (.bool false) ?_ ⟨by rw[hv];rfl,by rw[hv];rfl⟩;simp
 refine aG ?_;refine T0 (U _ _ _ ?_);clear U K;have hlen:s.length=2*n:=by simp at hb;omega
 clear hb;refine R0 ?_;refine aC fun K U=>?_;refine R0 ?_;refine aL ?_;refine eH 6 0 5 1 rfl rfl rfl rfl ?_;refine bB (α:={i:Nat//i≤n∧ ∀j,j<i→hOk s j=true}) (fun i=>(fin [(0,.c (.str s)),(1,.c (.int .i64 n)),(6,.own 36 i.1),(7,.c (.int .i64 i.1))],fob [(36,.row 5 1 ((hBs s i.1).map u8))])) 100 (fun i=>n-i.1) ⟨0,by omega,fun j hj=>absurd hj (by omega)⟩ (by simp only[cQ4,F2];exact fF) ?_;rintro⟨i,hi,ag⟩;have ar:=bT1 s i;refine aC fun K U=>?_;refine R0 ?_;refine aJ (b:=decide ((i:Int)<(n:Int))) rfl (fun hb=>?_) (fun hb=>?_)
 ·
  have ab:i<n:=by simp at hb;omega
  clear hb;have an:IntKind.i64.wrap (2*(i:Int))=((2*i:Nat):Int):=by rw[B0 _ (by omega)];omega
  have ah:IntKind.i64.wrap (((2*i:Nat):Int)+1)=((2*i+1:Nat):Int):=by rw[B0 _ (by omega)];rfl
  have ak:s.getD (2*i) 0=hX s i:=rfl;have aq:s.getD (2*i+1) 0=hY s i:=rfl;have ao:2*i<s.length:=by omega
  have ai:2*i+1<s.length:=by omega
  refine aG ?_;refine T0 (U _ _ _ ?_);clear U K;refine aC fun K U=>?_;refine aL ?_;refine aC fun K U=>DW [(0,[],[]),(1,[],[]),(2,[],[]),(3,[],[]),(5,[],[]),(6,[],[]),(7,[],[]),(8,[],[]),(9,[],[]),(4,[],[5,6,7,8,9]),(10,[],[]),(11,[],[]),(12,[],[])] [0,0,2,7,15,0,0,64,192,480,1023,2047,4095] ?_;have F:=aI @A1 (aI @A4 (aI an (aI ah (aI ak (aI aq (aI ao ai))))));iterate 9 refine WF ?_
  refine bL (g:=none) rfl rfl fun K' aa=>T6 ?_;refine C1 (aQ1 (hX s i)) ?_;rintro u rfl;refine AX (aa _ _ ?_);clear aa K';refine bL (g:=none) rfl rfl fun K' aa=>T6 ?_;refine C1 (aQ1 (hY s i)) ?_;rintro u rfl;refine AX (aa _ _ ?_);clear aa K';iterate 2 refine WF ?_
  refine T2 (U _ _ _ ?_);clear U K;refine aC fun K U=>?_;have hx:=bP7 (hX s i);have hy:=bP7 (hY s i);refine AU ?_;refine aH 32 rfl (fun J=>?_) (fun J=>?_)
  ·
   have F:=J;refine AU ?_;refine CT rfl ?_;refine R0 ?_;refine aE (RT Tryz.results99 ?_);have hk:hOk s i=false:=by simp at J;simp[hOk];omega
   have hv:dC s n=none:=by
    unfold dC;rw[A7];rintro⟨_,h⟩;have:=G5.1 h i (N5.2 ab);rw[hk]at this;cases this
   refine aO [] (.slc []) (.bool false) ?_ ⟨by rw[hv];rfl,by rw[hv];rfl⟩;simp
  have F:=J;refine AU ?_;refine aH 35 rfl (fun I=>?_) (fun I=>?_)
  ·
   simp only[I];refine RE ?_;refine CT rfl ?_;refine R0 ?_;refine aE (RT Tryz.results99 ?_);have hk:hOk s i=false:=by simp at I;simp[hOk];omega
   have hv:dC s n=none:=by
    unfold dC;rw[A7];rintro⟨_,h⟩;have:=G5.1 h i (N5.2 ab);rw[hk]at this;cases this
   refine aO [] (.slc []) (.bool false) ?_ ⟨by rw[hv];rfl,by rw[hv];rfl⟩;simp
  simp only[I];refine RE ?_;refine CF rfl ?_;refine aG ?_;refine T0 (U _ _ _ ?_);clear U K;have af:valL (hX s i)<16:=by simp at J;omega
  have ad:valL (hY s i)<16:=by simp at I;omega
  have e1:IntKind.i64.wrap (16*((valL (hX s i):Nat):Int))=((16*valL (hX s i):Nat):Int):=by rw[B0 _ (by omega)];omega
  have e2:IntKind.i64.wrap (((16*valL (hX s i):Nat):Int)+((valL (hY s i):Nat):Int))=((16*valL (hX s i)+valL (hY s i):Nat):Int):=by rw[B0 _ (by omega)];omega
  have e3:IntKind.u8.wrap ((16*valL (hX s i)+valL (hY s i):Nat):Int)=((hB s i).toNat:Int):=by rw[K7 _ (by omega),cI5 af ad]
  refine Rg ?_;have F:=aI e1 (aI e2 (aI e3 (aI @A1 (aI @A3.{0} (aI @A0.{0,0} (aI ar (aI J I)))))));refine AU ?_;refine T2 (U _ _ _ ?_);clear U K;refine aM (by kernel_rfl) ?_;refine TQ (cW i) ?_;have ae: ∀j,j<i+1→hOk s j=true:=fun j hj=>by
   rcases H4 j i with h|h
   · exact ag j h
   have:j=i:=by omega
   subst this;simp[hOk,af,ad]
  refine⟨⟨i+1,ab,ae⟩,bA (by omega) ?_ ?_,?_⟩
  · simp
  · simp only[jQ,cQ5,C5,B8,F2];exact⟨rfl,by omega,trivial,trivial⟩
  show n-(i+1)<n-i;omega
 refine aV (T3 ?_);clear U K;refine AX (U _ _ _ ?_);clear U K;refine R0 ?_;refine aE (RT Tryz.results99 ?_);have aj:i=n:=by simp at hb;omega
 subst aj;have hv:dC s i=some (hBs s i):=by
  unfold dC;rw[B1 ⟨hlen,G5.2 fun j hj=>ag j (N5.1 hj)⟩];rfl
 refine aO [36] (.slc ((hBs s i).map u8)) (.bool true) ?_ ⟨by rw[hv];rfl,by rw[hv];rfl⟩;simp[bT1,C8]
def pI (n:Nat)(l:List UInt8)(i:Nat):List UInt8:=l.take i++List.replicate (n-i) 0
theorem bM5 (n:Nat)(l:List UInt8):pI n l 0=List.replicate n 0:=by simp[pI]
variable {i n:Nat}{l:List UInt8}
theorem cC0 (h:i≤l.length)(hl:l.length≤n):(pI n l i).length=n:=by simp[pI];omega
theorem cC1 (h:i<l.length)(hl:l.length≤n):(pI n l i).set i l[i]=pI n l (i+1):=by
 unfold pI;rw[W8 _ _ (by rw[E1];exact Nat.min_le_left _ _),A5 h,show n-i=n-(i+1)+1 from by omega,Y2,H5];simp[M6 (S3 h)]
theorem cC2 (hl:l.length=n):pI n l l.length=l:=by subst hl;simp[pI]
theorem cC3 {s:aK}:((dC s n).getD []).length≤n:=by
 cases h:dC s n with
 |none=>simp
 |some l=>simp[kT h]
theorem mL (s:aK):fH Tryz.prog 67 [.str s] (fun u v=>u=dg ((eZ s).getD zdg)∧v= .bool (eZ s).isSome):=by
 refine FW Tryz.func67 ?_;refine R0 ?_;refine R0 ?_;refine aC fun K U=>?_;refine aC fun K U=>Rg ?_;have F:=aI @G2.{0} @H6;refine AU ?_;refine aH 10 rfl (fun J=>?_) (fun J=>?_)
 · have F:=aI @G2.{0} (aI @H6 J);refine AU ?_;refine T2 (U _ _ _ ?_);clear U K;refine CT rfl ?_;have F:=aI @bG (aI @bH (aI @dP (aI @fX @pY)));refine RF ?_;refine aE (RT Tryz.results67 ?_);have hn:eZ s=none:=oA (fun _=>tE (by simp at J⊢;omega));refine aO [] zd (.bool false) rfl ⟨by rw[hn];rfl,by rw[hn];rfl⟩
 have F:=aI @G2.{0} (aI @H6 J);refine SF ?_;refine aX (g:=some (11,false)) rfl rfl fun K' aa=>T6 ?_;refine⟨by simp at J;omega,?_⟩;refine AX (aa _ _ ?_);clear aa K';refine AU ?_;refine aH 14 rfl (fun I=>?_) (fun I=>?_)
 ·
  simp only[I];refine T2 (U _ _ _ ?_);clear U K;refine CT rfl ?_;have F:=aI @bG (aI @bH (aI @dP (aI @fX @pY)));refine RF ?_;refine aE (RT Tryz.results67 ?_);have hn:eZ s=none:=oA (fun hp=>by
   unfold prefB at hp;simp only[B3]at hp;have:s.take 7=shaW:=eq_of_beq hp.2;rw[this]at I;exact absurd I (by decide))
  refine aO [] zd (.bool false) rfl ⟨by rw[hn];rfl,by rw[hn];rfl⟩
 simp only[I];refine T2 (U _ _ _ ?_);clear U K;refine CF rfl ?_;refine aG ?_;refine T0 (U _ _ _ ?_);clear U K;have hs:s.length=71:=by simp at J;omega
 have hp:prefB s shaW=true:=by
  unfold prefB;have e:s.take 7=shaW:=by simpa[shaW]using I
  rw[show shaW.length=7 from rfl,e,hs];rfl
 have ai:List.take (s.length-7) (List.drop 7 s)=List.drop 7 s:=C8 (by simp);have h7:(7:Int)≤(s.length:Int):=by omega
 have ag:7≤s.length:=by omega
 refine aC fun K U=>Rg ?_;have F:=aI ai (aI h7 (aI ag (aI @A1 (aI @H1 (aI J I)))));refine AU ?_;refine HS rfl rfl fun K' aa=>T6 ?_;refine D2 (cB9 (s.drop 7) 32 (by omega)) ?_;rintro u v ⟨rfl,rfl⟩;refine AX (aa _ _ ?_);clear aa K';refine AU ?_;refine T2 (U _ _ _ ?_);clear U K;refine aC fun K U=>?_;obtain⟨l,hl⟩: ∃l,l=(dC (s.drop 7) 32).getD []:=⟨_,rfl⟩;have ae:l.length≤32:=by rw[hl];exact cC3
 rw[←hl];refine R0 ?_;refine aL ?_;refine bB (α:={i:Nat//i≤l.length}) (fun i=>(fin [(2,.ptr 0 0),(4,.ptr 8 0),(5,.c (.slc (l.map u8))),(6,.c (.bool (dC (s.drop 7) 32).isSome)),(7,.c (.int .i64 i.1))],fob [(0,.box 44 (.c zd)),(8,.box 44 (.c (us (pI 32 l i.1))))])) 200 (fun i=>l.length-i.1) ⟨0,by omega⟩ (bA (by omega) (by simp) (by simp only[jQ,fob_at,upd_at,none0_at,bM5];exact⟨rfl,by omega,trivial,rfl,by omega,trivial,trivial⟩)) ?_;rintro⟨i,hi⟩;have hA:=cC0 hi ae;refine aC fun K U=>?_;refine RS ?_;have F:=aI J I;refine AU ?_;refine aJ (b:=decide ((i:Int)<l.length)) rfl (fun hb=>?_) (fun hb=>?_)
 ·
  have ab:i<l.length:=by simpa using hb
  clear hb;have ad:=cU3 (l:=pI 32 l i) (i:=i) l[i] (by omega) (by omega);have af:(i:Int)<32:=by omega
  rw[cC1 ab ae]at ad;refine aG ?_;refine T0 (U _ _ _ ?_);clear U K;refine aC fun K U=>?_;refine aL ?_;refine Rg ?_;iterate 7 refine S0 ?_ (e:=fun _ h_=>by simp only[sH,↓sP,sA,tyS,simprocAttr,A1,A4,ab,aW ab,u8,ad,aS3,P4,af,J,I];exact AX h_)
  refine T2 (U _ _ _ ?_);clear U K;refine aM (by kernel_rfl) ?_;refine TQ (cW i) ?_;refine⟨⟨i+1,ab⟩,fF,?_⟩;show l.length-(i+1)<l.length-i;omega
 refine aV (T3 ?_);clear U K;refine AX (U _ _ _ ?_);clear U K;have ah:i=l.length:=by simp at hb;omega
 subst ah;have hg:=dE5 hA;refine RS ?_;have F:=aI @dg_setAt (aI hg (aI @bG (aI @bH (aI @dP (aI @fX (aI @pY (aI J I)))))));refine AU ?_;refine aE (RT Tryz.results67 ?_);rw[hg];simp only[I2];cases hv:dC (s.drop 7) 32 with
 |none=>
  rw[hv]at hl;subst hl;rw[oA fun _=>hv];exact aO [] zd (.bool false) rfl ⟨rfl,rfl⟩
 |some m=>
  rw[hv]at hl;obtain rfl:m=l:=hl.symm;have hm:=kT hv;rw[xI hp hv hm];refine aO [] (dg (⟨m,hm⟩:Dig)) (.bool true) ?_ ?_
  rotate_left
  · exact⟨rfl,rfl⟩
  rw[show us (pI 32 m m.length)=dg (⟨m,hm⟩:Dig)from by rw[cC2 hm];rfl];simp[dg_denil]
def rdV (d:Dv)(N n:Nat):HV:= .agg [.c d.q.cv,.c (.int .i64 d.t),.c (dg d.p),.c (.int .i64 d.r),.c d.o.cv,.own N n]
def kdF (w:aK):Nat→Int
 |0=>0
 |k+1=>if 2≤k∧rwK k=w then k else kdF w k
variable {k:Nat}
theorem dA0 {w:aK}(h:2≤k)(hw:rwK k=w):kdF w (k+1)=k:=by rw[kdF,B1 ⟨h,hw⟩]
theorem cQ6 {w:aK}(hw:rwK k≠w):kdF w (k+1)=kdF w k:=by rw[kdF,A7 (fun h=>hw h.2)]
def kfW (w:aK):Int:=(iS w).getD 0
theorem dA1 {w:aK}(h:w=oB):kfW w=1:=by subst h;rfl
theorem cQ7 {w:aK}(h:w≠oB):kfW w=kdF w 6:=by
 have e:kdF w 6=if rwK 5=w then 5 else if rwK 4=w then 4 else if rwK 3=w then 3 else if rwK 2=w then 2 else 0:=by
  simp[kdF]
 rw[e,show rwK 5=xL from rfl,show rwK 4=xK from rfl,show rwK 3=vH from rfl,show rwK 2=tH from rfl];unfold kfW iS;rw[A7 h];rcases U4 (w=tH)with rfl|I
 · decide
 rcases U4 (w=vH)with rfl|U
 · decide
 rcases U4 (w=xK)with rfl|J
 · decide
 rcases U4 (w=xL)with rfl|h5
 · decide
 rw[A7 I,A7 U,A7 J,A7 h5,A7 (U0 h5),A7 (U0 J),A7 (U0 U),A7 (U0 I)];rfl
theorem dA2 (w:aK):(kfW w !=0)=(iS w).isSome:=by
 unfold kfW;cases h:iS w with
 |none=>rfl
 |some k=>
  have:=pB.1 h;simp;omega
def gN (w:aK):Int:=(cU w).getD 0
theorem aQ2 : ∀l:List aK,fP l=if l.all (fun w=>(cU w).isSome)then some (l.map gN)else none
 |[]=>rfl
 |w::l=>by
  have I:=aQ2 l;unfold fP at I⊢;rw[K6,I];cases h:cU w with
  |none=>simp[h]
  |some n=>
   simp only[Q6,h,V2,B6,B8,gN,E9];cases J:l.all (fun w=>(cU w).isSome)<;>simp
variable {w:List aK}
theorem cQ8 (h:2≤w.length):kG w=if((cU (wd w 1)).isSome&&(w.drop 2).all fun x=>(cU x).isSome)=true∧(iS (wd w 0)).isSome=true then some ⟨kfW (wd w 0),gN (wd w 1),[],(w.drop 2).map gN⟩else none:=by
 match w,h with
 |a::b::r,_=>
  unfold kG;simp only[Q7,G2,aQ2,Q6,B8];rw[show wd (a::b::r) 0=a from rfl,show wd (a::b::r) 1=b from rfl];cases J:((cU b).isSome&&r.all fun x=>(cU x).isSome)with
  |false=>simp
  |true=>
   simp only[G4,Q9];unfold kfW;cases I:iS a<;>simp
theorem yZ (h:w.length<2):kG w=none:=by
 match w,h with
 |[],_=>rfl
 |[a],_=>rfl
def RlP (d:Dv)(L:List Ln)(w:List aK)(r:HV)(os':List HO):Prop:=
 (w.length<2∧kG w=none∧r= .tup [rdV d 0 L.length,.c (.bool false)]∧os'=[.hrow 41 4 (L.map fun z=>HV.c z.cv)])∨
 2≤w.length∧ ∃(k n:Int) (f:List Int),r= .tup [rdV d 0 (L.length+1),.c (.bool (kG w).isSome)]∧os'=[.hrow 41 4 ((L.map fun z=>HV.c z.cv)++[rdE ⟨k,n,[],f⟩ 1]),.row 44 32 []]∧ ∀x,kG w=some x→x=⟨k,n,[],f⟩
theorem dC1 (L:List Ln):lst [.hrow 41 4 (L.map fun z=>HV.c z.cv)]=fob [(0,.hrow 41 4 (L.map fun z=>HV.c z.cv))]:=by
 funext i
 match i with
 |0=>rfl
 |i+1=>simp[lst,fob,cZ,upd]
def fW (w:List aK)(i:Nat):List Int:=((w.drop 2).take (i-2)).map gN
def okB (w:List aK)(i:Nat):Bool:=(cU (wd w 1)).isSome&&((w.drop 2).take (i-2)).all fun x=>(cU x).isSome
theorem dC2 (I:2≤i)(h:i<w.length):(w.drop 2).take (i+1-2)=(w.drop 2).take (i-2)++[w[i]]:=by
 rw[show i+1-2=(i-2)+1 by omega,A5 (by rw[G8];omega),List.getElem_drop];simp only[show 2+(i-2)=i by omega]
theorem bT2 (I:2≤i)(h:i<w.length):fW w (i+1)=fW w i++[gN w[i]]:=by
 unfold fW;rw[dC2 I h,C5];rfl
theorem bG0 (I:2≤i)(h:i<w.length):okB w (i+1)=(okB w i&&(cU w[i]).isSome):=by
 unfold okB;rw[dC2 I h,S5];simp[W5]
theorem dH4 (w:List aK):fW w w.length=(w.drop 2).map gN:=by
 unfold fW;rw[C8 (by rw[G8];omega)]
theorem dA3 (w:List aK):okB w w.length=((cU (wd w 1)).isSome&&(w.drop 2).all fun x=>(cU x).isSome):=by
 unfold okB;rw[C8 (by rw[G8];omega)]
theorem cQ9 (h:i≤w.length):(fW w i).length=i-2:=by
 unfold fW;rw[A0,E1,G8];omega
variable {L:List Ln}{r:HV}
theorem cR0 (U:r= .tup [rdV d 0 L.length,.c (.bool false)])(J:ob 0=some (.hrow 41 4 (L.map fun z=>HV.c z.cv)))(hs:w.length<2)(hn:kG w=none):
  gR 1 r ob (fun r ob'=> ∃I,ob'=lst I∧(1≤I.length∧I.length≤1+4)∧RlP d L w r I):=by
 subst U;refine eM [] [] (.tup [rdV d 0 L.length,.c (.bool false)]) [.hrow 41 4 (L.map fun z=>HV.c z.cv)] ?_ (by simp[rdV]) ⟨⟨by simp[bV],by simp,_,(by simpa[tau]using J),?_⟩,trivial⟩ rfl (by simp) (by simp) (by simp) (.inl ⟨hs,hn,rfl,rfl⟩)
 · simp[rdV,tau,Qs.denil,Og.denil,dg_denil]
 simp[jV,jG,nU]
theorem bG1 {k n:Int}{f:List Int}{b:Bool}(N:Nat)(hN:1≤N)(U:r= .tup [rdV d 0 (L.length+1),.c (.bool b)])(J:ob 0=some (.hrow 41 4 ((L.map fun z=>HV.c z.cv)++[rdE ⟨k,n,[],f⟩ N])))(h1:ob N=some (.row 44 32 []))(hs:2≤w.length)(hb:(kG w).isSome=b)(hx: ∀x,kG w=some x→x=⟨k,n,[],f⟩):
  gR 1 r ob (fun r ob'=> ∃I,ob'=lst I∧(1≤I.length∧I.length≤1+4)∧RlP d L w r I):=by
 subst U;refine eM [] [N] (.tup [rdV d 0 (L.length+1),.c (.bool b)]) [.hrow 41 4 ((L.map fun z=>HV.c z.cv)++[rdE ⟨k,n,[],f⟩ 1]),.row 44 32 []] ?_ (by simp[rdV]) ⟨⟨by simp[bV,rdE],by simp,_,(by simpa[tau]using J),?_⟩,⟨by simp,by simp,_,(by simpa[tau]using h1),rfl⟩,trivial⟩ rfl (by simp) (by simpa using hN) (by simp) (.inr ⟨hs,k,n,f,by rw[hb],rfl,hx⟩)
 · simp[rdV,tau,Qs.denil,Og.denil,dg_denil]
 simp[jV,jG,nU,mG,kH,rdE,denilL_int,tau]
theorem bG2 (w:List aK)(au:w.length≤120)(h0:0<w.length)(aq:wd w 0≠wDoc)(d:Dv)(L:List Ln)(hL:L.length<2^38):HGe Tryz.prog 69 [rdV d 0 L.length,.c (.slc (w.map .str))] [.hrow 41 4 (L.map fun z=>HV.c z.cv)] (RlP d L w):=by
 refine bO (args:=[rdV d 0 L.length,.c (.slc (w.map .str))]) Tryz.func69 rfl (by kernel_rfl) (dQ rfl (by simp[cV,bV]) (by simp[rdV])) (C7 rfl) ?_;show Hw _ _ 1 _ _ _ (lst _) 1;rw[dC1];have ak:(wd w 0==[100,111,99])=false:=S4 aq;refine R0 ?_ (e:=fun _ h_=>by simp only[↓sP,sA,tyS,simprocAttr,rdV];exact AX h_);refine aC fun K I=>?_;have F:=@A0.{0,0};refine RF ?_;refine aJ (b:=decide ((w.length:Int)<2)) rfl (fun hb=>?_) (fun hb=>?_)
 ·
  have ae:w.length<2:=by have:=F9 hb;omega
  clear hb;refine R0 ?_ (e:=fun _ h_=>by simp only[↓sP,sA,tyS,simprocAttr,rdV];exact AX h_);refine aE (RT Tryz.results69 ?_);refine⟨rfl,?_⟩;exact cR0 rfl rfl ae (yZ ae)
 have h2:2≤w.length:=by have:=G7 hb;omega
 clear hb;refine aG ?_;refine T0 (I _ _ _ ?_);clear I K;refine aC fun K I=>?_;refine RS ?_;iterate 4 refine S0 ?_ (e:=fun _ h_=>by simp only[sH,↓sP,sA,tyS,simprocAttr,A0,cY h0,E7,ak];exact AX h_)
 refine RE ?_;refine CF rfl ?_;refine aG ?_;refine T0 (I _ _ _ ?_);clear I K;refine R0 ?_;refine aC fun K I=>?_;refine R0 ?_;refine aL ?_;have ag:kdF (wd w 0) 2=0:=by simp[kdF]
 refine bB (α:={k:Nat//2≤k∧k≤6}) (fun k=>(fin [(1,.c (.slc (w.map .str))),(2,.ptr 1 0),(4,.ptr 5 0),(9,.ptr 41 0),(10,.c (.int .i64 k.1))],fob [(0,.hrow 41 4 (L.map fun z=>HV.c z.cv)),(1,.box 50 (rdV d 0 L.length)),(5,.box 50 (.c (.agg [.agg [.str [],.str [],zd],.int .i64 0,zd,.int .i64 0,.agg [zd,.str [],.str []],.nils]))),(41,.box 41 (.c (.agg [.int .i64 (kdF (wd w 0) k.1),.int .i64 0,.nils,.nils])))])) 200 (fun k=>6-k.1) ⟨2,by omega,by omega⟩ (fG (by simp[rdV,bV,ag])) ?_;clear ag;rintro⟨k,an,ar⟩;simp only;refine aC fun K I=>?_;refine R0 ?_;refine aJ (b:=decide ((k:Int)≤5)) rfl (fun hb=>?_) (fun hb=>?_)
 ·
  have aw:k≤5:=by have:=F9 hb;omega
  clear hb;refine aG ?_;refine T0 (I _ _ _ ?_);clear I K;refine aC fun K I=>?_;refine aL ?_;refine aC fun K I=>DW [(0,[],[]),(2,[],[]),(3,[],[]),(4,[],[]),(1,[],[2,3,4]),(5,[],[])] [0,1,0,4,12,31] ?_;iterate 4 refine W0 ?_ (e:=fun _ h_=>by simp only[sH,↓sP,sA,tyS,simprocAttr,A0,cY h0,E7];exact AX h_)
  refine bL (g:=none) rfl rfl fun K' U=>?_;simp only[sH,↓sP,sA,tyS,simprocAttr,A0,cY h0,E7];refine C1 (wC k) ?_;rintro u rfl;refine AX (U _ _ ?_);clear U K';refine W0 ?_ (e:=fun _ h_=>by simp only[sH,↓sP,sA,tyS,simprocAttr,A0,cY h0,E7];exact AX h_);refine T2 (I _ _ _ ?_);clear I K;refine aJ (b:=(rwK k==wd w 0)) rfl (fun hb=>?_) (fun hb=>?_)
  · refine aM (by kernel_rfl) ?_;refine T0 (I _ _ _ ?_);clear I K;refine aM (by kernel_rfl) ?_;refine TQ (show IntKind.i64.wrap ((k:Int)+1)=((k+1:Nat):Int)from by rw[B0 _ (by omega)];rfl) ?_;have hh:=dA0 an (eq_of_beq hb);refine⟨⟨k+1,by omega,by omega⟩,?_,by simp only;omega⟩;simp only[hh];exact fG (by simp[rdV,bV])
  refine aG ?_;refine T0 (I _ _ _ ?_);clear I K;refine aM (by kernel_rfl) ?_;refine TQ (show IntKind.i64.wrap ((k:Int)+1)=((k+1:Nat):Int)from by rw[B0 _ (by omega)];rfl) ?_;have hh:=cQ6 (k:=k) (w:=wd w 0) (fun e=>by rw[e]at hb;simp at hb);refine⟨⟨k+1,by omega,by omega⟩,?_,by simp only;omega⟩;simp only[hh];exact fG (by simp[rdV,bV])
 obtain rfl:k=6:=by have:=G7 hb;omega
 clear hb;refine aV (T3 ?_);clear I K;refine AX (I _ _ _ ?_);clear I K;refine aC fun K I=>?_;have key: ∀fr ob nx,Fits 1 fr ob (fin [(1,.c (.slc (w.map .str))),(2,.ptr 1 0),(4,.ptr 5 0),(9,.ptr 41 0)]) (fob [(0,.hrow 41 4 (L.map fun z=>HV.c z.cv)),(1,.box 50 (rdV d 0 L.length)),(5,.box 50 (.c (.agg [.agg [.str [],.str [],zd],.int .i64 0,zd,.int .i64 0,.agg [zd,.str [],.str []],.nils]))),(41,.box 41 (.c (.agg [.int .i64 (kfW (wd w 0)),.int .i64 0,.nils,.nils])))]) 400→K fr ob nx:=by
  rintro fr ob nx hf;refine I _ _ _ (aZ hf ?_);clear hf I K;refine aC fun K I=>Rg ?_;iterate 3 refine S0 ?_ (e:=fun _ h_=>by simp only[sH,↓sP,sA,tyS,simprocAttr,A0,cY (show 1<w.length by omega),K0];exact AX h_)
  refine HS rfl rfl fun K' U=>?_;simp only[sH,↓sP,sA,tyS,simprocAttr,A0,cY (show 1<w.length by omega),K0];refine D1 (vN (wd w 1)) ?_;rintro u v ⟨rfl,rfl⟩;refine AX (U _ _ ?_);clear U K';iterate 5 refine S0 ?_ (e:=fun _ h_=>by simp only[sH,↓sP,sA,tyS,simprocAttr,A0,cY (show 1<w.length by omega),K0];exact AX h_)
  refine T2 (I _ _ _ ?_);clear I K;refine R0 ?_;refine aC fun K I=>?_;refine R0 ?_;refine aL ?_;refine dV 41 2 44 32 rfl rfl rfl rfl (dV 41 3 3 1 rfl rfl rfl rfl ?_);refine bB (α:={i:Nat//2≤i∧i≤w.length}) (fun i=>(fin [(1,.c (.slc (w.map .str))),(2,.ptr 1 0),(4,.ptr 5 0),(9,.ptr 41 0),(12,.c (.bool (okB w i.1))),(13,.c (.int .i64 i.1))],fob [(0,.hrow 41 4 (L.map fun z=>HV.c z.cv)),(1,.box 50 (rdV d 0 L.length)),(5,.box 50 (.c (.agg [.agg [.str [],.str [],zd],.int .i64 0,zd,.int .i64 0,.agg [zd,.str [],.str []],.nils]))),(41,.box 41 (.agg [.c (.int .i64 (kfW (wd w 0))),.c (.int .i64 (gN (wd w 1))),.own 452 0,.own 453 (fW w i.1).length])),(452,.row 44 32 []),(453,.row 3 1 ((fW w i.1).map (CV.int .i64)))])) 600 (fun i=>w.length-i.1) ⟨2,by omega,by omega⟩ (fG (by simp[rdV,bV,fW,okB,gN])) ?_;rintro⟨i,ad,ao⟩;simp only;refine aC fun K I=>?_;refine AU ?_;refine aJ (b:=decide ((i:Int)<w.length)) rfl (fun hb=>?_) (fun hb=>?_)
  ·
   have aa:i<w.length:=by have:=F9 hb;omega
   have ai:=cQ9 ao;clear hb;refine aG ?_;refine T0 (I _ _ _ ?_);clear I K;refine aC fun K I=>?_;refine aL ?_;refine aC fun K I=>Rg ?_;have F:=aI @A0.{0,0} (aI @A1 (aI @A4 (aI aa (nM aa))));refine AU ?_;refine HS rfl rfl fun K' U=>T6 ?_;refine D1 (vN w[i]) ?_;rintro u v ⟨rfl,rfl⟩;refine AX (U _ _ ?_);clear U K';refine AU ?_;refine T2 (I _ _ _ ?_);clear I K;refine Rg ?_;have F:=@A0.{0,0};refine AU ?_;refine aH 116 rfl (fun J=>?_) (fun J=>?_)
   · have F:=aI @A0.{0,0} J;refine AU ?_;refine T2 (I _ _ _ ?_);clear I K;refine aM (by kernel_rfl) ?_;refine TQ (show IntKind.i64.wrap ((i:Int)+1)=((i+1:Nat):Int)from by rw[B0 _ (by omega)];rfl) ?_;refine⟨⟨i+1,by omega,aa⟩,?_,by simp only;omega⟩;simp only[bT2 ad aa,bG0 ad aa,J,B6];exact fG (by simp[rdV,bV,gN])
   have F:=aI @A0.{0,0} J;refine AU ?_;refine T2 (I _ _ _ ?_);clear I K;refine aM (by kernel_rfl) ?_;refine TQ (show IntKind.i64.wrap ((i:Int)+1)=((i+1:Nat):Int)from by rw[B0 _ (by omega)];rfl) ?_;refine⟨⟨i+1,by omega,aa⟩,?_,by simp only;omega⟩;simp only[bT2 ad aa,bG0 ad aa,J,B9];exact fG (by simp[rdV,bV,gN])
  obtain rfl:i=w.length:=by have:=G7 hb;omega
  clear hb;have ai:=cQ9 (w:=w) (E3 _);have hF:=dH4 w;have hO:=dA3 w;obtain⟨F,aj⟩: ∃F,F=fW w w.length:=⟨_,rfl⟩;obtain⟨ok,af⟩: ∃ok,ok=okB w w.length:=⟨_,rfl⟩;rw[←aj]at hF ai⊢;rw[←af]at hO⊢;have ab:=cQ8 h2;rw[←hF,←hO,←dA2]at ab;clear aj af hF hO;refine aV (T3 ?_);clear I K;refine AX (I _ _ _ ?_);clear I K;refine bW [453] (aZ (fr2:=fin [(2,.ptr 1 0),(4,.ptr 5 0),(9,.ptr 41 0),(12,.c (.bool ok))]) (ob2:=fob [(0,.hrow 41 4 (L.map fun z=>HV.c z.cv)),(1,.box 50 (rdV d 0 L.length)),(5,.box 50 (.c dv0.cv)),(41,.box 41 (rdE ⟨kfW (wd w 0),gN (wd w 1),[],F⟩ 452)),(452,.row 44 32 [])]) (nx2:=700) (bA (by omega) (by simp[denilL_str,jV,bV,rdV,rdE,Qs.denil,Og.denil,dg_denil,nU,denilL_int,fX,(show CV.agg [CV.agg [CV.str [],CV.str [],zd],CV.int IntKind.i64 0,zd,CV.int IntKind.i64 0,CV.agg [zd,CV.str [],CV.str []],CV.slc []]=dv0.cv from rfl)]) (by simp[denilL_str,jV,bV,rdV,rdE,Qs.denil,Og.denil,dg_denil,nU,denilL_int,fX,(show CV.agg [CV.agg [CV.str [],CV.str [],zd],CV.int IntKind.i64 0,zd,CV.int IntKind.i64 0,CV.agg [zd,CV.str [],CV.str []],CV.slc []]=dv0.cv from rfl)])) ?_);refine aC fun K I=>aY (by kernel_rfl) ?_;simp only[sR,simprocAttr];iterate 3 refine SG0 ?_ (e:=fun _ h_=>by simp only[sH,↓sP,sA,tyS,simprocAttr,rdV,rdE,A0,C0];exact AX h_)
  refine aU (g:=none) rfl rfl fun K' U=>?_;simp only[sN,↓hopH.eq_def,sH,↓sP,sA,tyS,simprocAttr,rdV,rdE,A0,C0];refine AX (U _ _ ?_);clear U K';refine aU (g:=none) rfl rfl fun K' U=>?_;simp only[sN,↓hopH.eq_def,sH,↓sP,sA,tyS,simprocAttr,rdV,rdE,A0,C0];refine AX (U _ _ ?_);clear U K';iterate 2 refine SG0 ?_ (e:=fun _ h_=>by simp only[sH,↓sP,sA,tyS,simprocAttr,rdV,rdE,A0,C0];exact AX h_)
  refine T2 (I _ _ _ ?_);clear I K;by_cases ah:ok=true
  ·
   subst ah;refine aC fun K I=>DW [(0,[],[]),(1,[],[]),(2,[],[]),(3,[],[]),(4,[],[]),(5,[],[]),(6,[],[]),(7,[],[3,4,5,6]),(8,[],[])] [0,0,2,6,14,30,62,7,255] ?_;iterate 9 refine W0 ?_ (e:=fun _ h_=>by simp only[sH,↓sP,sA,tyS,simprocAttr,rdV,rdE];exact AX h_)
   refine T2 (I _ _ _ ?_);clear I K;refine aE (RT Tryz.results69 ?_);refine⟨rfl,?_⟩;refine bG1 (k:=kfW (wd w 0)) (n:=gN (wd w 1)) (f:=F) (b:=kfW (wd w 0) !=0) 452 (by omega) ?_ rfl rfl h2 ?_ ?_
   rotate_left 1
   · rw[ab];cases(kfW (wd w 0) !=0)<;>simp
   ·
    intro x hx;rw[ab]at hx;split at hx
    · exact(F6 hx).symm
    cases hx
   simp[rdV];try rfl
  obtain rfl:ok=false:=by simpa using ah
  refine aC fun K I=>DW [(0,[],[]),(1,[],[]),(2,[],[]),(3,[],[]),(4,[],[]),(5,[],[]),(6,[],[]),(7,[],[3,4,5,6]),(8,[],[])] [0,0,2,6,14,30,62,7,255] ?_;iterate 9 refine W0 ?_ (e:=fun _ h_=>by simp only[sH,↓sP,sA,tyS,simprocAttr,rdV,rdE];exact AX h_)
  refine T2 (I _ _ _ ?_);clear I K;refine aE (RT Tryz.results69 ?_);refine⟨rfl,?_⟩;refine bG1 (k:=kfW (wd w 0)) (n:=gN (wd w 1)) (f:=F) (b:=false) 452 (by omega) ?_ rfl rfl h2 ?_ ?_
  rotate_left 1
  · rw[ab];cases(kfW (wd w 0) !=0)<;>simp
  ·
   intro x hx;rw[ab]at hx;split at hx
   · exact(F6 hx).symm
   cases hx
  simp[rdV];try rfl
 refine RS ?_;iterate 4 refine S0 ?_ (e:=fun _ h_=>by simp only[sH,↓sP,sA,tyS,simprocAttr,A0,cY h0,E7];exact AX h_)
 refine RE ?_;refine aJ (b:=(wd w 0==[110,101,101,100])) rfl (fun hb=>?_) (fun hb=>?_)
 · refine aM (by kernel_rfl) ?_;simp only[↓sP,sA,tyS,simprocAttr];have hh:=dA1 (w:=wd w 0) (eq_of_beq hb);exact key _ _ _ (by rw[hh];exact fG (by simp[rdV,bV]))
 refine aG (T3 ?_);have hh:=cQ7 (w:=wd w 0) (fun e=>by rw[e]at hb;cases hb);exact key _ _ _ (by rw[hh];exact fG (by simp[rdV,bV]))
end Go.Proofs.YthedbjfipmkpiaaGreatDoor
