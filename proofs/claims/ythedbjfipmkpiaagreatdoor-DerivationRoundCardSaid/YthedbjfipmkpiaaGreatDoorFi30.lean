/- DerivationRound: for any tape of numbers the law returns true and leaves it as it was: Decode of the encoded form of a made derivation returns it. The listed tables of the library are tied to the program's text by the card. By an AI agent. -/
import Derived.Test.YthedbjfipmkpiaaGreatDoorHdW9
import Derived.Test.YthedbjfipmkpiaaGreatDoorHdSb
import Derived.Test.YthedbjfipmkpiaaGreatDoorPl11c
import Derived.Test.YthedbjfipmkpiaaGreatDoorHdW8
import Derived.Test.YthedbjfipmkpiaaGreatDoorHdX9
import Derived.Lay
import Derived.SevenTiedAt
import Derived.Test.YthedbjfipmkpiaaGreatDoorRows
import Derived.Test.YthedbjfipmkpiaaGreatDoorCards
import Derived.Test.YthedbjfipmkpiaaGreatDoorTie
set_option linter.unusedSimpArgs false
set_option linter.unusedVariables false
set_option linter.defProp false
namespace Go.Proofs.YthedbjfipmkpiaaGreatDoor
open Go Go.Hl Go.Pl
set_option maxRecDepth 10000
set_option maxHeartbeats 16000000
theorem qQ (x y:Qs):CV.eqv x.cv y.cv=true↔x=y:=by
 cases x;cases y;simp[Qs.cv,CV.eqv,CV.eqvL,aW9];try grind
theorem qR (x y:Og):CV.eqv x.cv y.cv=true↔x=y:=by
 cases x;cases y;simp[Og.cv,CV.eqv,CV.eqvL,aW9];try grind
theorem uJ {x:Qs}(h:CV.eqv x.cv x.cv=false):False:=by rw[(qQ x x).2 rfl]at h;cases h
theorem uK {x:Og}(h:CV.eqv x.cv x.cv=false):False:=by rw[(qR x x).2 rfl]at h;cases h
theorem oS (w:aL):CV.ofTy Tryz.prog 7 9 (.str w)=true:=by unfold CV.ofTy;rw[ty9]
theorem oD (d:Dig):CV.ofTy Tryz.prog 7 44 (dg d)=true:=aI5 (n:=5) ty44 ty5 (by kernel_rfl) d
theorem cS :Tryz.prog.cellsOf 9=1:=by kernel_rfl
theorem cD :Tryz.prog.cellsOf 44=32:=by kernel_rfl
theorem oQ (x:Qs):CV.ofTy Tryz.prog 8 46 x.cv=true:=by
 unfold CV.ofTy;rw[ty46];show CV.ofTyF Tryz.prog 7 [(0,9),(1,9),(2,44)] [.str x.n,.str x.i,dg x.a]=true;simp only[CV.ofTyF,oS,oD,dg_cells,cS,cD,CV.cells,beq_self_eq_true,Bool.and_self]
theorem oO (x:Og):CV.ofTy Tryz.prog 8 48 x.cv=true:=by
 unfold CV.ofTy;rw[ty48];show CV.ofTyF Tryz.prog 7 [(0,44),(32,9),(33,9)] [dg x.v,.str x.l,.str x.r]=true;simp only[CV.ofTyF,oS,oD,dg_cells,cS,cD,CV.cells,beq_self_eq_true,Bool.and_self]
theorem cG (x y:Qs)(K:CV→Prop):iM Tryz.prog .eql 46 (.c x.cv) (.c y.cv) K=K (.bool (CV.eqv x.cv y.cv)):=by
 have h1:=oQ x;have h2:=oQ y;have ha:aA5 Tryz.prog 46=true:=by kernel_rfl
 simp only[Qs.cv]at h1 h2⊢;simp only[iM,ha,h1,h2,and_self,true_and]
theorem cH (x y:Og)(K:CV→Prop):iM Tryz.prog .eql 48 (.c x.cv) (.c y.cv) K=K (.bool (CV.eqv x.cv y.cv)):=by
 have h1:=oO x;have h2:=oO y;have ha:aA5 Tryz.prog 48=true:=by kernel_rfl
 simp only[Og.cv]at h1 h2⊢;simp only[iM,ha,h1,h2,and_self,true_and]
theorem uL {x y:Dv}(h1:x.q=y.q)(h2:(x.t==y.t)=true)(h3:(x.p==y.p)=true)(h4:(x.r==y.r)=true)(h5:x.o=y.o)(h6:x.l=y.l):x=y:=by
 have e2:=eq_of_beq h2;have e3:=eq_of_beq h3;have e4:=eq_of_beq h4;cases x;cases y;simp only at h1 e2 e3 e4 h5 h6;subst h1 e2 e3 e4 h5 h6;rfl
theorem cK3 (x y:Dv)(ha:x.l.length<2^40)(hd: ∀z∈x.l,z.d.length<2^42∧z.f.length<2^40):cE Tryz.prog 28 [x.cv,y.cv] (fun v=> ∃c,v= .bool c∧(c=true↔x=y)):=by
 refine bI Tryz.func28 rfl (by kernel_rfl) (dJ _) (Nat.le_of_ble_eq_true rfl) ?_;refine aC fun K hK=>aE (by kernel_rfl) ?_;simp (maxSteps:=4000000) only[↓sP,sA,tyS,simprocAttr];repeat refine AI ?_
 refine hK _ _ _ ?_;clear hK K;refine aC fun K hK=>aE (by kernel_rfl) ?_;simp only[sR,simprocAttr];iterate 6
  (refine aF (g:=none) rfl rfl fun K' hK'=>?_;simp only[sH,↓sP,sA,tyS,simprocAttr,cG,cH];(repeat refine AI ?_);refine hK' _ _ ?_;clear hK' K')
 refine aG 9 rfl (fun h1_9=>?_) (fun h1_9=>?_)
 ·
  iterate 5
   (refine aF (g:=some (10,true)) rfl rfl fun K' hK'=>?_;simp only[sH,↓sP,sA,tyS,simprocAttr,cG,cH,h1_9];(repeat refine AI ?_);refine hK' _ _ ?_;clear hK' K')
  iterate 2
   (refine aF (g:=none) rfl rfl fun K' hK'=>?_;simp only[sH,↓sP,sA,tyS,simprocAttr,cG,cH,h1_9];(repeat refine AI ?_);refine hK' _ _ ?_;clear hK' K')
  refine aG 15 rfl (fun h1_15=>?_) (fun h1_15=>?_)
  ·
   iterate 5
    (refine aF (g:=some (17,true)) rfl rfl fun K' hK'=>?_;simp only[sH,↓sP,sA,tyS,simprocAttr,cG,cH,h1_9,h1_15];(repeat refine AI ?_);refine hK' _ _ ?_;clear hK' K')
   iterate 2
    (refine aF (g:=none) rfl rfl fun K' hK'=>?_;simp only[sH,↓sP,sA,tyS,simprocAttr,cG,cH,h1_9,h1_15];(repeat refine AI ?_);refine hK' _ _ ?_;clear hK' K')
   refine aG 22 rfl (fun h1_22=>?_) (fun h1_22=>?_)
   ·
    iterate 5
     (refine aF (g:=some (24,true)) rfl rfl fun K' hK'=>?_;simp only[sH,↓sP,sA,tyS,simprocAttr,cG,cH,h1_9,h1_15,h1_22];(repeat refine AI ?_);refine hK' _ _ ?_;clear hK' K')
    iterate 2
     (refine aF (g:=none) rfl rfl fun K' hK'=>?_;simp only[sH,↓sP,sA,tyS,simprocAttr,cG,cH,h1_9,h1_15,h1_22];(repeat refine AI ?_);refine hK' _ _ ?_;clear hK' K')
    refine aG 29 rfl (fun h1_29=>?_) (fun h1_29=>?_)
    ·
     iterate 5
      (refine aF (g:=some (31,true)) rfl rfl fun K' hK'=>?_;simp only[sH,↓sP,sA,tyS,simprocAttr,cG,cH,h1_9,h1_15,h1_22,h1_29];(repeat refine AI ?_);refine hK' _ _ ?_;clear hK' K')
     iterate 2
      (refine aF (g:=none) rfl rfl fun K' hK'=>?_;simp only[sH,↓sP,sA,tyS,simprocAttr,cG,cH,h1_9,h1_15,h1_22,h1_29];(repeat refine AI ?_);refine hK' _ _ ?_;clear hK' K')
     refine aG 36 rfl (fun h1_36=>?_) (fun h1_36=>?_)
     ·
      iterate 4
       (refine aF (g:=some (38,true)) rfl rfl fun K' hK'=>?_;simp only[sH,↓sP,sA,tyS,simprocAttr,cG,cH,h1_9,h1_15,h1_22,h1_29,h1_36];(repeat refine AI ?_);refine hK' _ _ ?_;clear hK' K')
      refine aF (g:=some (38,true)) rfl rfl fun K' hK'=>?_;simp (maxSteps:=4000000) only[sH,↓sP,sA,tyS,simprocAttr,cG,cH,h1_9,h1_15,h1_22,h1_29,h1_36];refine cZ (args:=[_,_]) (bN5 x.l y.l ha hd) ⟨rfl,rfl,rfl,rfl⟩ ?_;rintro u ⟨c,rfl,hc⟩;repeat refine AI ?_
      refine hK' _ _ ?_;clear hK' K';iterate 2
       (refine aF (g:=none) rfl rfl fun K' hK'=>?_;simp only[sH,↓sP,sA,tyS,simprocAttr,cG,cH,h1_9,h1_15,h1_22,h1_29,h1_36];(repeat refine AI ?_);refine hK' _ _ ?_;clear hK' K')
      simp only[sE,↓reduceIte,simprocAttr];repeat refine AI ?_
      refine hK _ _ _ ?_;clear hK K;refine aH ?_;simp (maxSteps:=4000000) only[bS,Tryz.results28,bP,bR,bN,↓sP,sA,tyS,simprocAttr];first
       |exact aJ [] (.bool c) rfl ⟨c,rfl,⟨fun h=>uL ((qQ _ _).1 h1_9) h1_15 h1_22 h1_29 ((qR _ _).1 h1_36) (hc.1 h),fun h=>hc.2 (by rw[h])⟩⟩
       |skip
        refine aJ [] (.bool false) rfl ⟨false,rfl,⟨fun h=>(by cases h),?_⟩⟩;rintro rfl;exfalso;first|exact uJ h1_9|(simp at h1_15;done)|(simp at h1_22;done)|(simp at h1_29;done)|exact uK h1_36
     iterate 5
      (refine aF (g:=some (38,true)) rfl rfl fun K' hK'=>?_;simp only[sH,↓sP,sA,tyS,simprocAttr,cG,cH,h1_9,h1_15,h1_22,h1_29,h1_36];(repeat refine AI ?_);refine hK' _ _ ?_;clear hK' K')
     iterate 2
      (refine aF (g:=none) rfl rfl fun K' hK'=>?_;simp only[sH,↓sP,sA,tyS,simprocAttr,cG,cH,h1_9,h1_15,h1_22,h1_29,h1_36];(repeat refine AI ?_);refine hK' _ _ ?_;clear hK' K')
     simp only[sE,↓reduceIte,simprocAttr];repeat refine AI ?_
     refine hK _ _ _ ?_;clear hK K;refine aH ?_;simp (maxSteps:=4000000) only[bS,Tryz.results28,bP,bR,bN,↓sP,sA,tyS,simprocAttr];first
      |exact aJ [] (.bool c) rfl ⟨c,rfl,⟨fun h=>uL ((qQ _ _).1 h1_9) h1_15 h1_22 h1_29 ((qR _ _).1 h1_36) (hc.1 h),fun h=>hc.2 (by rw[h])⟩⟩
      |skip
       refine aJ [] (.bool false) rfl ⟨false,rfl,⟨fun h=>(by cases h),?_⟩⟩;rintro rfl;exfalso;first|exact uJ h1_9|(simp at h1_15;done)|(simp at h1_22;done)|(simp at h1_29;done)|exact uK h1_36
    iterate 5
     (refine aF (g:=some (31,true)) rfl rfl fun K' hK'=>?_;simp only[sH,↓sP,sA,tyS,simprocAttr,cG,cH,h1_9,h1_15,h1_22,h1_29];(repeat refine AI ?_);refine hK' _ _ ?_;clear hK' K')
    iterate 2
     (refine aF (g:=none) rfl rfl fun K' hK'=>?_;simp only[sH,↓sP,sA,tyS,simprocAttr,cG,cH,h1_9,h1_15,h1_22,h1_29];(repeat refine AI ?_);refine hK' _ _ ?_;clear hK' K')
    iterate 5
     (refine aF (g:=some (38,true)) rfl rfl fun K' hK'=>?_;simp only[sH,↓sP,sA,tyS,simprocAttr,cG,cH,h1_9,h1_15,h1_22,h1_29];(repeat refine AI ?_);refine hK' _ _ ?_;clear hK' K')
    iterate 2
     (refine aF (g:=none) rfl rfl fun K' hK'=>?_;simp only[sH,↓sP,sA,tyS,simprocAttr,cG,cH,h1_9,h1_15,h1_22,h1_29];(repeat refine AI ?_);refine hK' _ _ ?_;clear hK' K')
    simp only[sE,↓reduceIte,simprocAttr];repeat refine AI ?_
    refine hK _ _ _ ?_;clear hK K;refine aH ?_;simp (maxSteps:=4000000) only[bS,Tryz.results28,bP,bR,bN,↓sP,sA,tyS,simprocAttr];first
     |exact aJ [] (.bool c) rfl ⟨c,rfl,⟨fun h=>uL ((qQ _ _).1 h1_9) h1_15 h1_22 h1_29 ((qR _ _).1 h1_36) (hc.1 h),fun h=>hc.2 (by rw[h])⟩⟩
     |skip
      refine aJ [] (.bool false) rfl ⟨false,rfl,⟨fun h=>(by cases h),?_⟩⟩;rintro rfl;exfalso;first|exact uJ h1_9|(simp at h1_15;done)|(simp at h1_22;done)|(simp at h1_29;done)|exact uK h1_36
   iterate 5
    (refine aF (g:=some (24,true)) rfl rfl fun K' hK'=>?_;simp only[sH,↓sP,sA,tyS,simprocAttr,cG,cH,h1_9,h1_15,h1_22];(repeat refine AI ?_);refine hK' _ _ ?_;clear hK' K')
   iterate 2
    (refine aF (g:=none) rfl rfl fun K' hK'=>?_;simp only[sH,↓sP,sA,tyS,simprocAttr,cG,cH,h1_9,h1_15,h1_22];(repeat refine AI ?_);refine hK' _ _ ?_;clear hK' K')
   iterate 5
    (refine aF (g:=some (31,true)) rfl rfl fun K' hK'=>?_;simp only[sH,↓sP,sA,tyS,simprocAttr,cG,cH,h1_9,h1_15,h1_22];(repeat refine AI ?_);refine hK' _ _ ?_;clear hK' K')
   iterate 2
    (refine aF (g:=none) rfl rfl fun K' hK'=>?_;simp only[sH,↓sP,sA,tyS,simprocAttr,cG,cH,h1_9,h1_15,h1_22];(repeat refine AI ?_);refine hK' _ _ ?_;clear hK' K')
   iterate 5
    (refine aF (g:=some (38,true)) rfl rfl fun K' hK'=>?_;simp only[sH,↓sP,sA,tyS,simprocAttr,cG,cH,h1_9,h1_15,h1_22];(repeat refine AI ?_);refine hK' _ _ ?_;clear hK' K')
   iterate 2
    (refine aF (g:=none) rfl rfl fun K' hK'=>?_;simp only[sH,↓sP,sA,tyS,simprocAttr,cG,cH,h1_9,h1_15,h1_22];(repeat refine AI ?_);refine hK' _ _ ?_;clear hK' K')
   simp only[sE,↓reduceIte,simprocAttr];repeat refine AI ?_
   refine hK _ _ _ ?_;clear hK K;refine aH ?_;simp (maxSteps:=4000000) only[bS,Tryz.results28,bP,bR,bN,↓sP,sA,tyS,simprocAttr];first
    |exact aJ [] (.bool c) rfl ⟨c,rfl,⟨fun h=>uL ((qQ _ _).1 h1_9) h1_15 h1_22 h1_29 ((qR _ _).1 h1_36) (hc.1 h),fun h=>hc.2 (by rw[h])⟩⟩
    |skip
     refine aJ [] (.bool false) rfl ⟨false,rfl,⟨fun h=>(by cases h),?_⟩⟩;rintro rfl;exfalso;first|exact uJ h1_9|(simp at h1_15;done)|(simp at h1_22;done)|(simp at h1_29;done)|exact uK h1_36
  iterate 5
   (refine aF (g:=some (17,true)) rfl rfl fun K' hK'=>?_;simp only[sH,↓sP,sA,tyS,simprocAttr,cG,cH,h1_9,h1_15];(repeat refine AI ?_);refine hK' _ _ ?_;clear hK' K')
  iterate 2
   (refine aF (g:=none) rfl rfl fun K' hK'=>?_;simp only[sH,↓sP,sA,tyS,simprocAttr,cG,cH,h1_9,h1_15];(repeat refine AI ?_);refine hK' _ _ ?_;clear hK' K')
  iterate 5
   (refine aF (g:=some (24,true)) rfl rfl fun K' hK'=>?_;simp only[sH,↓sP,sA,tyS,simprocAttr,cG,cH,h1_9,h1_15];(repeat refine AI ?_);refine hK' _ _ ?_;clear hK' K')
  iterate 2
   (refine aF (g:=none) rfl rfl fun K' hK'=>?_;simp only[sH,↓sP,sA,tyS,simprocAttr,cG,cH,h1_9,h1_15];(repeat refine AI ?_);refine hK' _ _ ?_;clear hK' K')
  iterate 5
   (refine aF (g:=some (31,true)) rfl rfl fun K' hK'=>?_;simp only[sH,↓sP,sA,tyS,simprocAttr,cG,cH,h1_9,h1_15];(repeat refine AI ?_);refine hK' _ _ ?_;clear hK' K')
  iterate 2
   (refine aF (g:=none) rfl rfl fun K' hK'=>?_;simp only[sH,↓sP,sA,tyS,simprocAttr,cG,cH,h1_9,h1_15];(repeat refine AI ?_);refine hK' _ _ ?_;clear hK' K')
  iterate 5
   (refine aF (g:=some (38,true)) rfl rfl fun K' hK'=>?_;simp only[sH,↓sP,sA,tyS,simprocAttr,cG,cH,h1_9,h1_15];(repeat refine AI ?_);refine hK' _ _ ?_;clear hK' K')
  iterate 2
   (refine aF (g:=none) rfl rfl fun K' hK'=>?_;simp only[sH,↓sP,sA,tyS,simprocAttr,cG,cH,h1_9,h1_15];(repeat refine AI ?_);refine hK' _ _ ?_;clear hK' K')
  simp only[sE,↓reduceIte,simprocAttr];repeat refine AI ?_
  refine hK _ _ _ ?_;clear hK K;refine aH ?_;simp (maxSteps:=4000000) only[bS,Tryz.results28,bP,bR,bN,↓sP,sA,tyS,simprocAttr];first
   |exact aJ [] (.bool c) rfl ⟨c,rfl,⟨fun h=>uL ((qQ _ _).1 h1_9) h1_15 h1_22 h1_29 ((qR _ _).1 h1_36) (hc.1 h),fun h=>hc.2 (by rw[h])⟩⟩
   |skip
    refine aJ [] (.bool false) rfl ⟨false,rfl,⟨fun h=>(by cases h),?_⟩⟩;rintro rfl;exfalso;first|exact uJ h1_9|(simp at h1_15;done)|(simp at h1_22;done)|(simp at h1_29;done)|exact uK h1_36
 iterate 5
  (refine aF (g:=some (10,true)) rfl rfl fun K' hK'=>?_;simp only[sH,↓sP,sA,tyS,simprocAttr,cG,cH,h1_9];(repeat refine AI ?_);refine hK' _ _ ?_;clear hK' K')
 iterate 2
  (refine aF (g:=none) rfl rfl fun K' hK'=>?_;simp only[sH,↓sP,sA,tyS,simprocAttr,cG,cH,h1_9];(repeat refine AI ?_);refine hK' _ _ ?_;clear hK' K')
 iterate 5
  (refine aF (g:=some (17,true)) rfl rfl fun K' hK'=>?_;simp only[sH,↓sP,sA,tyS,simprocAttr,cG,cH,h1_9];(repeat refine AI ?_);refine hK' _ _ ?_;clear hK' K')
 iterate 2
  (refine aF (g:=none) rfl rfl fun K' hK'=>?_;simp only[sH,↓sP,sA,tyS,simprocAttr,cG,cH,h1_9];(repeat refine AI ?_);refine hK' _ _ ?_;clear hK' K')
 iterate 5
  (refine aF (g:=some (24,true)) rfl rfl fun K' hK'=>?_;simp only[sH,↓sP,sA,tyS,simprocAttr,cG,cH,h1_9];(repeat refine AI ?_);refine hK' _ _ ?_;clear hK' K')
 iterate 2
  (refine aF (g:=none) rfl rfl fun K' hK'=>?_;simp only[sH,↓sP,sA,tyS,simprocAttr,cG,cH,h1_9];(repeat refine AI ?_);refine hK' _ _ ?_;clear hK' K')
 iterate 5
  (refine aF (g:=some (31,true)) rfl rfl fun K' hK'=>?_;simp only[sH,↓sP,sA,tyS,simprocAttr,cG,cH,h1_9];(repeat refine AI ?_);refine hK' _ _ ?_;clear hK' K')
 iterate 2
  (refine aF (g:=none) rfl rfl fun K' hK'=>?_;simp only[sH,↓sP,sA,tyS,simprocAttr,cG,cH,h1_9];(repeat refine AI ?_);refine hK' _ _ ?_;clear hK' K')
 iterate 5
  (refine aF (g:=some (38,true)) rfl rfl fun K' hK'=>?_;simp only[sH,↓sP,sA,tyS,simprocAttr,cG,cH,h1_9];(repeat refine AI ?_);refine hK' _ _ ?_;clear hK' K')
 iterate 2
  (refine aF (g:=none) rfl rfl fun K' hK'=>?_;simp only[sH,↓sP,sA,tyS,simprocAttr,cG,cH,h1_9];(repeat refine AI ?_);refine hK' _ _ ?_;clear hK' K')
 simp only[sE,↓reduceIte,simprocAttr];repeat refine AI ?_
 refine hK _ _ _ ?_;clear hK K;refine aH ?_;simp (maxSteps:=4000000) only[bS,Tryz.results28,bP,bR,bN,↓sP,sA,tyS,simprocAttr];first
  |exact aJ [] (.bool c) rfl ⟨c,rfl,⟨fun h=>uL ((qQ _ _).1 h1_9) h1_15 h1_22 h1_29 ((qR _ _).1 h1_36) (hc.1 h),fun h=>hc.2 (by rw[h])⟩⟩
  |skip
   refine aJ [] (.bool false) rfl ⟨false,rfl,⟨fun h=>(by cases h),?_⟩⟩;rintro rfl;exfalso;first|exact uJ h1_9|(simp at h1_15;done)|(simp at h1_22;done)|(simp at h1_29;done)|exact uK h1_36
theorem sX {ob:Ob}{cl:List Nat}(L:List Int)(a:Nat):((HV.c (tp L a)).close ob cl).norm=HV.c (tp L a):=by
 simp[HV.close,HV.closeL,tp,CV.denil,CV.denilL,denilL_int,HV.norm,HV.toC,HV.toCL]
theorem cK4 (L:List Int)(a:Nat)(ha:a<2^38):zT Tryz.prog 58 76 (tp L a) [] (fun u v'=> ∃(w:aL) (a':Nat),u= .str w∧w.length≤20∧v'=tp L a'∧a'≤a+4):=by
 refine bI Tryz.func58 rfl (by kernel_rfl) (fN _ _ _) (Nat.le_of_ble_eq_true rfl) ?_;refine R0 ?_;refine R0 ?_;refine aC fun K hK=>?_;refine aC fun K hK=>Rg ?_;refine S0 ?_;refine HS rfl rfl fun K' hK'=>T5 ?_;refine bM (args:=[_]) (dE L a 3 (by omega) (by omega)) rfl (by simp) ⟨rfl,rfl,rfl,rfl⟩ ?_;rintro u v' ⟨y,a1,rfl,rfl,g1,g2,g3,g4⟩;obtain⟨m,rfl⟩: ∃m:Nat,y=m:=⟨y.toNat,by omega⟩;have hm:m≤2:=by have:=g4 (by omega);omega
 clear g2 g3 g4;refine AX (hK' _ _ ?_);clear hK' K';refine S0 ?_;refine T2 (hK _ _ _ ?_);clear hK K;refine aN ?_;refine bH (α:={z:Nat×aL×Nat//z.2.1.length+8*z.1≤16∧z.2.2+z.1≤a1+2}) (fun z=>(fin [(0,.ptr 0 0),(3,.c (.str z.1.2.1)),(4,.c (.int .i64 z.1.1))],fob [(0,.box 76 (.c (tp L z.1.2.2)))])) 200 (fun z=>z.1.1) ⟨(m,[],a1),by simp;omega,by simp;omega⟩ (fF) ?_;rintro⟨⟨n,w,a2⟩,hz1,hz2⟩;simp only at hz1 hz2⊢;refine aC fun K hK=>?_;refine R0 ?_;refine aK (b:=decide ((0:Int)<n)) rfl (fun hb=>?_) (fun hb=>?_)
 ·
  have hn:0<n:=by have:=of_decide_eq_true hb;omega
  clear hb;refine aM ?_;refine T0 (hK _ _ _ ?_);clear hK K;refine aC fun K hK=>?_;refine aN ?_;refine bY (by kernel_rfl) ?_;simp only[sR,simprocAttr];iterate 2 refine SG0 ?_
  refine cT (g:=none) 216 rfl rfl fun K' hK'=>?_;simp only[gP,jP,sH,↓sP,sA,tyS,simprocAttr];repeat refine AI ?_
  refine dA (by first|rfl|simp) ?_;try simp only[sH,↓sP,sA,tyS,simprocAttr]
  refine AX (hK' _ _ ?_);clear hK' K';refine aU (g:=none) rfl rfl fun K' hK'=>T5 ?_;refine bM (args:=[_]) (sW L a2 [[97],[98],[115,114,99],[111,117,116],[108,105,98]] (by omega) (by decide)) rfl (by simp) ⟨rfl,rfl,rfl,rfl⟩ ?_;rintro u v' ⟨q,a3,rfl,hq,rfl,h3⟩;have hql:q.length≤3:=by
   simp only[List.mem_cons,List.not_mem_nil,or_false]at hq;rcases hq with rfl|rfl|rfl|rfl|rfl<;>decide
  refine AX (hK' _ _ ?_);clear hK' K';iterate 3 refine SG0 ?_
  refine T2 (hK _ _ _ ?_);clear hK K;refine aE (by kernel_rfl) ?_;refine TQ (show IntKind.i64.wrap ((n:Int)-1)=((n-1:Nat):Int)from by rw[IntWalk.i64_in _ (by omega)];omega) ?_;refine⟨⟨(n-1,w++q++[47],a3),by simp;omega,by simp only;omega⟩,(fF),by simp only;omega⟩
 clear hb;refine aZ (T3 ?_);clear hK K;refine AX (hK _ _ _ ?_);clear hK K;refine aC fun K hK=>bY (by kernel_rfl) ?_;simp only[sR,simprocAttr];iterate 2 refine SG0 ?_
 refine cT (g:=none) 216 rfl rfl fun K' hK'=>?_;simp only[gP,jP,sH,↓sP,sA,tyS,simprocAttr];repeat refine AI ?_
 refine dA (by first|rfl|simp) ?_;try simp only[sH,↓sP,sA,tyS,simprocAttr]
 refine AX (hK' _ _ ?_);clear hK' K';refine aU (g:=none) rfl rfl fun K' hK'=>T5 ?_;refine bM (args:=[_]) (sW L a2 [[97],[98],[97,46,99],[98,46,104],[120],[111,117,116]] (by omega) (by decide)) rfl (by simp) ⟨rfl,rfl,rfl,rfl⟩ ?_;rintro u v' ⟨q,a3,rfl,hq,rfl,h3⟩;have hql:q.length≤3:=by
  simp only[List.mem_cons,List.not_mem_nil,or_false]at hq;rcases hq with rfl|rfl|rfl|rfl|rfl|rfl<;>decide
 refine AX (hK' _ _ ?_);clear hK' K';iterate 2 refine SG0 ?_
 refine T2 (hK _ _ _ ?_);clear hK K;refine aH (RT Tryz.results58 ?_);exact gO [] (.str (w++q)) (tp L a3) rfl rfl (sX L a3) (by simp) ⟨_,a3,rfl,by simp;omega,rfl,by omega⟩
theorem cC5 (L:List Int)(a:Nat)(ha:a<2^40):zT Tryz.prog 59 76 (tp L a) [] (fun u v'=> ∃(d:Dig) (a':Nat),u=dg d∧v'=tp L a'∧a'≤a+1):=by
 refine bI Tryz.func59 rfl (by kernel_rfl) (fN _ _ _) (Nat.le_of_ble_eq_true rfl) ?_;refine R0 ?_;refine aC fun K hK=>Rg ?_;refine S0 ?_;refine HS rfl rfl fun K' hK'=>T5 ?_;refine bM (args:=[_]) (dE L a 6 (by omega) (by omega)) rfl (by simp) ⟨rfl,rfl,rfl,rfl⟩ ?_;rintro u v' ⟨x,a',rfl,rfl,h1,h2,h3,h4⟩;have h5:=h4 (by omega);have e1:IntKind.i64.wrap (1+x)=1+x:=IntWalk.i64_in _ (by omega);have e2:IntKind.u8.wrap (1+x)=1+x:=IntWalk.u8_in _ (by omega);refine AX (hK' _ _ ?_);clear hK' K';have F:=aI e1 (aI e2 (aI @dg_cells (aI @xF (aI @dH @dI))));iterate 2 refine SF ?_
 refine HS rfl rfl fun K' hK'=>T6 ?_;rw[tM (show 0≤1+x by omega) (by omega)];refine AX (hK' _ _ ?_);clear hK' K';refine SF ?_;refine T2 (hK _ _ _ ?_);clear hK K;refine aH (RT Tryz.results59 ?_);exact gO [] (dg (dg1 (UInt8.ofNat (1+x).toNat))) (tp L a') (by simp[HV.close,dg_denil,HV.norm,HV.toC]) rfl (sX L a') (by simp) ⟨_,a',rfl,rfl,h1⟩
theorem bP5 (L:List Int)(a:Nat)(ha:a<2^38):zT Tryz.prog 60 76 (tp L a) [] (fun u v'=> ∃(o:Og) (a':Nat),u=o.cv∧o.l.length≤4∧o.r.length≤4∧v'=tp L a'∧a'≤a+3):=by
 refine bI Tryz.func60 rfl (by kernel_rfl) (fN _ _ _) (Nat.le_of_ble_eq_true rfl) ?_;refine R0 ?_;refine aC fun K hK=>bY (by kernel_rfl) ?_;simp only[sR,simprocAttr];refine SG0 ?_;refine aU (g:=none) rfl rfl fun K' hK'=>T5 ?_;refine bM (args:=[_]) (dE L a 2 (by omega) (by omega)) rfl (by simp) ⟨rfl,rfl,rfl,rfl⟩ ?_;rintro u v' ⟨x,a1,rfl,rfl,h1,h2,h3,h4⟩;have h5:=h4 (by omega);have e1:IntKind.i64.wrap (1+x)=1+x:=IntWalk.i64_in _ (by omega);have e2:IntKind.u8.wrap (1+x)=1+x:=IntWalk.u8_in _ (by omega);refine AX (hK' _ _ ?_);clear hK' K';have F:=aI e1 e2;iterate 3 refine SGF ?_
 refine aU (g:=none) rfl rfl fun K' hK'=>T6 ?_;rw[tM (show 0≤1+x by omega) (by omega)];refine AX (hK' _ _ ?_);clear hK' K';refine cT (g:=none) 29 rfl rfl fun K' hK'=>?_;simp only[gP,jP,sH,↓sP,sA,tyS,simprocAttr,e1,e2];repeat refine AI ?_
 refine dA (by first|rfl|simp) ?_;try simp only[sH,↓sP,sA,tyS,simprocAttr,e1,e2]
 refine AX (hK' _ _ ?_);clear hK' K';refine aU (g:=none) rfl rfl fun K' hK'=>T6 ?_;refine bM (args:=[_]) (sW L a1 [[115,104,111,112],[119,101,98]] (by omega) (by decide)) rfl (by simp) ⟨rfl,rfl,rfl,rfl⟩ ?_;rintro u v' ⟨p,a2,rfl,hp,rfl,h6⟩;refine AX (hK' _ _ ?_);clear hK' K';refine SGF ?_;refine cT (g:=none) 41 rfl rfl fun K' hK'=>?_;simp only[gP,jP,sH,↓sP,sA,tyS,simprocAttr,e1,e2];repeat refine AI ?_
 refine dA (by first|rfl|simp) ?_;try simp only[sH,↓sP,sA,tyS,simprocAttr,e1,e2]
 refine AX (hK' _ _ ?_);clear hK' K';refine aU (g:=none) rfl rfl fun K' hK'=>T6 ?_;refine bM (args:=[_]) (sW L a2 [[114],[115]] (by omega) (by decide)) rfl (by simp) ⟨rfl,rfl,rfl,rfl⟩ ?_;rintro u v' ⟨q,a3,rfl,hq,rfl,h7⟩;have hpl:p.length≤4:=by
  simp only[List.mem_cons,List.not_mem_nil,or_false]at hp;rcases hp with rfl|rfl<;>decide
 have hql:q.length≤4:=by
  simp only[List.mem_cons,List.not_mem_nil,or_false]at hq;rcases hq with rfl|rfl<;>decide
 refine AX (hK' _ _ ?_);clear hK' K';iterate 2 refine SGF ?_
 refine T2 (hK _ _ _ ?_);clear hK K;refine aH (RT Tryz.results60 ?_);exact gO [] (Og.cv ⟨dg1 (UInt8.ofNat (1+x).toNat),p,q⟩) (tp L a3) (by simp[HV.close,Og.denil,HV.norm,HV.toC]) rfl (sX L a3) (by simp) ⟨_,a3,rfl,hpl,hql,rfl,by omega⟩
theorem cK5 {l:List Ln}{x:Ln}(h:x∈l):x.d.length≤(eC l).length:=by
 obtain⟨p,q,hpq⟩:=List.append_of_mem h;rw[hpq];simp[eC];omega
theorem cK6 {d:Dv}(h:SmallD d):DvW d:=by
 have hf:=h.fine;simp only[kX,Bool.and_eq_true]at hf;have h1:=(fA _).1 hf.1.1;have h2:=(fA _).1 hf.1.2;have h3:=h.lines;have h4:=h.docs;have h5:=uD d.l;refine⟨⟨by omega,by omega⟩,⟨by omega,by omega⟩,fun x hx=>?_,?_,by omega⟩
 ·
  have hx1:=List.all_eq_true.1 hf.2 x hx;have hx2:=(aJ9 hx1).2;have hx3:=Nat.le_trans (aK0 hx) h.refs;have hx4:x.d.length≤(eC d.l).length:=by
   obtain⟨p,q,hpq⟩:=List.append_of_mem hx;rw[hpq];simp[eC];omega
  have hk:1≤x.k∧x.k≤5:=by
   unfold eW at hx1;simp only[Bool.and_eq_true]at hx1;have:=hx1.1.1;simp[inB]at this;exact this
  have hn:=hx2 x.n (by simp);exact⟨⟨by omega,by omega⟩,⟨by omega,by omega⟩,fun n hn=>by have:=hx2 n (by simp[hn]);exact⟨by omega,by omega⟩,by omega,by omega⟩
 rw[iA,List.length_append,h5];have:(kW d).length=2:=rfl;omega
theorem bP6 (L:List Int)(a:Nat)(ha:a<2^36):zT Tryz.prog 26 76 (tp L a) [] (fun u v'=> ∃(d:Dv) (a':Nat),u=d.cv∧v'=tp L a'∧SmallD d):=by
 refine bI Tryz.func26 rfl (by kernel_rfl) (fN _ _ _) (Nat.le_of_ble_eq_true rfl) ?_;refine R0 ?_;refine aC fun K hK=>Rg ?_;refine S0 ?_;refine HS rfl rfl fun K' hK'=>T5 ?_;refine bM (args:=[]) (bP2 L a (by omega)) rfl (by simp) ⟨rfl,rfl,rfl,rfl⟩ ?_;rintro u v' ⟨T,a1,rfl,rfl,hT,ha1⟩;have hI:=cH8 hT;have hN:=aF9 hI;have h40:=cI2 hT;have hlv:(dN T).length≤16:=by rw[kN (aS7 hI),gE];exact hI.lv
 refine AX (hK' _ _ ?_);clear hK' K';refine S0 ?_;refine T2 (hK _ _ _ ?_);clear hK K;refine aC fun K hK=>Rg ?_;have F:=aI @denilL_Nd @denilL_Sp;iterate 3 refine SF ?_
 refine HS rfl rfl fun K' hK'=>T6 ?_;refine bM (args:=[_,_]) (aU8 L a1 T hN hlv 9 (by omega) (by omega)) rfl (by simp) ⟨rfl,rfl,rfl,rfl⟩ ?_;rintro u v' ⟨S,a2,rfl,rfl,hS,hd,ha2⟩;refine AX (hK' _ _ ?_);clear hK' K';refine HS rfl rfl fun K' hK'=>T6 ?_;refine D2 (bP4 T hN S (by omega) (fun x hx=>by have:=hd x hx;omega)) ?_;rintro u v ⟨rfl,rfl⟩;refine AX (hK' _ _ ?_);clear hK' K';iterate 5 refine SF ?_
 refine T2 (hK _ _ _ ?_);clear hK K;refine aC fun K hK=>Rg ?_;refine S0 ?_;refine HS rfl rfl fun K' hK'=>T5 ?_;refine bM (args:=[]) (cK4 L a2 (by omega)) rfl (by simp) ⟨rfl,rfl,rfl,rfl⟩ ?_;rintro u v' ⟨w,a3,rfl,hw,rfl,ha3⟩;refine AX (hK' _ _ ?_);clear hK' K';refine S0 ?_;refine HS rfl rfl fun K' hK'=>T5 ?_;refine bM (args:=[]) (cC5 L a3 (by omega)) rfl (by simp) ⟨rfl,rfl,rfl,rfl⟩ ?_;rintro u v' ⟨d1,a4,rfl,rfl,ha4⟩;refine AX (hK' _ _ ?_);clear hK' K';iterate 2 refine S0 ?_
 refine HS rfl rfl fun K' hK'=>T5 ?_;refine bM (args:=[_]) (dE L a4 90 (by omega) (by omega)) rfl (by simp) ⟨rfl,rfl,rfl,rfl⟩ ?_;rintro u v' ⟨t,a5,rfl,rfl,h1,h2,h3,h4⟩;refine AX (hK' _ _ ?_);clear hK' K';refine S0 ?_;refine HS rfl rfl fun K' hK'=>T5 ?_;refine bM (args:=[]) (cC5 L a5 (by omega)) rfl (by simp) ⟨rfl,rfl,rfl,rfl⟩ ?_;rintro u v' ⟨d2,a6,rfl,rfl,ha6⟩;refine AX (hK' _ _ ?_);clear hK' K';refine S0 ?_;refine HS rfl rfl fun K' hK'=>T5 ?_;refine bM (args:=[_]) (dE L a6 3 (by omega) (by omega)) rfl (by simp) ⟨rfl,rfl,rfl,rfl⟩ ?_;rintro u v' ⟨r,a7,rfl,rfl,k1,k2,k3,k4⟩;refine AX (hK' _ _ ?_);clear hK' K';refine S0 ?_;refine HS rfl rfl fun K' hK'=>T5 ?_;refine bM (args:=[]) (bP5 L a7 (by omega)) rfl (by simp) ⟨rfl,rfl,rfl,rfl⟩ ?_;rintro u v' ⟨o,a8,rfl,ho1,ho2,rfl,ha8⟩;refine AX (hK' _ _ ?_);clear hK' K';iterate 3 refine S0 ?_
 refine T2 (hK _ _ _ ?_);clear hK K;refine aH (RT Tryz.results26 ?_);exact gO [] (Dv.cv ⟨⟨w,[119,101,98],d1⟩,t,d2,r,o,dY T S⟩) (tp L a8) (by simp[HV.close,Dv.denil,HV.norm,HV.toC]) rfl (sX L a8) (by simp) ⟨_,a8,rfl,rfl,bA2 h40 hd rfl ⟨h2,by have:=h4 (by omega);show t≤1000;omega⟩ ⟨k2,by have:=k4 (by omega);show r≤1000;omega⟩ (by show w.length≤100;omega) (by show 3≤100;decide) (by show o.l.length≤100;omega) (by show o.r.length≤100;omega)⟩
theorem cC6 {ls:List (List aL)}(h:nY ls=0):(rV ls).length≤262144:=by
 rw[rV,if_pos h];unfold nY at h;split at h
 · cases h
 split at h
 · rename_i l hl;have:=List.find?_some hl;simp[okL,h]at this
 split at h
 · cases h
 omega
theorem cK7 {d:Dv}(h:dvE d=0):(dvO d).length<2^40:=by
 obtain⟨_,h2,h3⟩:=aZ8 h;have:=cC6 h2;rw[h3];omega
theorem bP7 (L:List Int):nV Tryz.prog 6 tabs [.slc (L.map (.int .i64))] (fun v=>v= .bool true):=by
 refine bI (args:=[.c (.slc (L.map (.int .i64)))]) Tryz.func6 rfl (by kernel_rfl) (gF tabs [.slc (L.map (.int .i64))]) (Nat.le_of_ble_eq_true rfl) ?_;unfold gC;refine R0 ?_;refine aC fun K hK=>Rg ?_;have F:=@denilL_int;refine SF ?_;refine HS rfl rfl fun K' hK'=>T6 ?_;refine eX [] (cJ8 L 200) rfl trivial (by simp) (by simp) ⟨rfl,rfl,rfl,rfl⟩ (by simp[dS]) (by simp[HV.menL,HV.men]) ?_;rintro r os' ⟨rfl,rfl⟩;rw[cC1,bP0];refine AX (hK' _ _ ?_);clear hK' K';refine HS rfl rfl fun K' hK'=>T6 ?_;refine bM (args:=[]) (bP6 (L.take 200) 0 (by omega)) rfl (by simp) ⟨rfl,rfl,rfl,rfl⟩ ?_;rintro u v' ⟨d,a',rfl,rfl,hd⟩;have hE:=bO0 hd;have hdl:=hd.docs;have hrl:=hd.refs;have hll:=hd.lines;refine AX (hK' _ _ ?_);clear hK' K';iterate 2 refine SF ?_
 refine T2 (hK _ _ _ ?_);clear hK K;refine aC fun K hK=>Rg ?_;refine S0 ?_;refine HS rfl rfl fun K' hK'=>T5 ?_;refine eU (args:=[_]) 0 (yT d (cK6 hd)) rfl (by simp) ⟨rfl,rfl,rfl,rfl⟩ ?_;rintro u v ⟨rfl,rfl⟩;rw[hE];refine AX (hK' _ _ ?_);clear hK' K';iterate 5 refine S0 ?_
 refine T2 (hK _ _ _ ?_);clear hK K;refine aC fun K hK=>Rg ?_;have F:=@cP;refine SF ?_;refine HS rfl rfl fun K' hK'=>T6 ?_;refine eU (args:=[_]) 0 (bG2 (dvO d) (cK7 hE)) rfl (by simp) ⟨rfl,rfl,rfl,rfl⟩ ?_;rintro u v ⟨rfl,rfl⟩;rw[(yH hE rfl).2.1,(yH hE rfl).2.2];refine AX (hK' _ _ ?_);clear hK' K';iterate 6 refine SF ?_
 refine T2 (hK _ _ _ ?_);clear hK K;refine aC fun K hK=>Rg ?_;have F:=show((0:Int)==0)=true from rfl
 iterate 9 refine SF ?_
 refine aF (g:=some (27,true)) rfl rfl fun K' hK'=>T6 ?_;refine C2 (cK3 d d (by omega) (fun z hz=>⟨by have:=cK5 hz;omega,by have:=aK0 hz;omega⟩)) ?_;rintro u ⟨c,rfl,hc⟩;obtain rfl:=hc.2 rfl;refine AX (hK' _ _ ?_);clear hK' K';iterate 2 refine SF ?_
 refine aF (g:=some (32,true)) rfl rfl fun K' hK'=>T6 ?_;refine mN (args:=[]) 0 cC0 rfl (by simp) ⟨rfl,rfl,rfl,rfl⟩ ?_;rintro u rfl;refine AX (hK' _ _ ?_);clear hK' K';iterate 2 refine SF ?_
 refine T2 (hK _ _ _ ?_);clear hK K;refine aH (RT Tryz.results6 ?_);exact pZ [] (.bool true) rfl rfl (by simp) rfl
set_option maxRecDepth 100000
theorem aA1 {W:World}(h:laidMetH Tryz.prog Rows.derivationRoundRow.laid W):Lib.TabIs Tryz.prog W "internal/strconv.uint64pow10" .u64 Lib.pow10Tab:=by
  rw[MakeChecks.laidMetH_plain _ _ _ (by kernel_rfl)]at h;have h2:=laidMet.filter (fun x=>x.1== "internal/strconv.uint64pow10") h;have e:(Rows.derivationRoundRow.laid.filter fun x=>x.1== "internal/strconv.uint64pow10")=[("internal/strconv.uint64pow10",Lib.tabData .u64 Lib.pow10Tab)]:=by kernel_rfl
  rw[e]at h2;exact Lib.tabIs_of_head aJ4 (by kernel_rfl) Tryz.underlying199 Tryz.underlying135 (by kernel_rfl) (by kernel_rfl) h2
theorem lK (H:Type)(enc:TypeId×Value→H)(W:World)(args:Array Value)(ds gs:List (DataW H))(before:List MemPlace)
    (hL:laidMetH Tryz.prog Rows.derivationRoundRow.laid W)
    (hval: ∀(j:Nat) t v,Tryz.f6.params[j]? =some t→args[j]? =some v→Value.okWide Tryz.prog W .any 0 t v)
    (hW:DataW.Whole enc Tryz.prog Tryz.f6.params.toList Rows.derivationRoundSpec.vars false W args.toList ds gs before):
    Calls Tryz.prog 6 args W fun e W'=> ∃v,e= .returned v∧Rows.derivationRoundSpec.post enc Tryz.prog Tryz.f6 false true false false W args v W':=by
  refine bJ2 (mm:=6) (tb:=4) (tabs:=tabs) (by kernel_rfl) cU7 bB2 rfl (by kernel_rfl) Tryz.underlying4 ?_ ?_ ?_ ?_ (fun j t v h1 h2=>?_) hW
  · rw[Tryz.params6]
    intro H ds h
    match ds,h with
    |[c0],_=>exact⟨rfl,rfl,rfl⟩
  · rw[Tryz.params6]
    intro t ht;simp only[List.mem_cons,List.not_mem_nil,or_false]at ht;rcases ht with rfl
    · exact⟨by kernel_rfl,of_decide_eq_true (by kernel_rfl)⟩
  · rw[Tryz.params6]
    intro cs hn hty
    match cs,hn,hty with
    |[c0],_,hty=>
      obtain⟨L,rfl,_,_⟩:=cJ7 (hty 0 _ c0 rfl rfl);exact bP7 L
  · intro x hx
    simp only[tabs,List.mem_cons,List.not_mem_nil,or_false]at hx;rcases hx with rfl
    · exact zW aJ4 (aA1 hL)
  · exact hval j t v h1 h2
open Go.ChangeShapes Go.WideShapes Go.ChangeAt Go.RowKit in
set_option maxRecDepth 100000 in
theorem mV (os:Os)(started:os.Started)(H:Type)(enc:TypeId×Value→H):
    ReturnsInHanded {} Tryz.checked os 6 .any (fun w args=>(Rows.derivationRoundSpec.pre enc Tryz.prog Tryz.f6 [] false w args∧laidMetH Tryz.prog Rows.derivationRoundRow.laid w)∧sizedMet enc Tryz.prog Tryz.f6 (OpenSpec.ofChange Rows.derivationRoundSpec) false w args)
      (Rows.derivationRoundSpec.post enc Tryz.prog Tryz.f6 false true false false):=by
  refine returnsInHanded_of_change_and (C:=Tryz.checked) (X:=fun w _=>laidMetH Tryz.prog Rows.derivationRoundRow.laid w) (fun _ _ _ hh h=>h.of_heap hh) own started (by kernel_rfl) Tryz.func6
    (ChangeSpec.witness_shaped (enc:=enc) (C:=Tryz.checked) (os:=os) (X:=fun w _=>laidMetH Tryz.prog Rows.derivationRoundRow.laid w) false (World.laidAll Tryz.prog os Rows.derivationRoundRow.laid) #[.slice none 0 0] 8 (World.laidAll_os _ _ _)
      (World.shaped_of_ZipB (by kernel_rfl) (by kernel_rfl)) (by kernel_rfl) (by kernel_rfl) (by kernel_rfl)
      (by rw[MakeChecks.laidMetH_plain _ _ _ (by kernel_rfl)];exact laidMet_laidAll _ (by kernel_rfl) (by kernel_rfl))) ?_
  intro W base args ds gs before hval hW _ _ hL _;exact lK H enc W args ds gs before hL (fun j t v h1 h2=>(hval j t v h1 h2)) hW
theorem pJ :Rows.DerivationRoundSaid:=
  OpenClaim.holds_of_wide 6 Tryz.f6 rfl rfl rfl rfl rfl rfl rfl ⟨rfl,rfl,rfl,rfl,rfl⟩ rfl rfl rfl rfl rfl (by kernel_rfl) Tryz.func6 (by kernel_rfl)
    (of_decide_eq_true (by kernel_rfl)) (by unfold Func.isWrapper;first|(rw[if_pos (by decide+kernel)];kernel_rfl)|(rw[if_neg (by decide+kernel)];exact⟨rfl,rfl⟩))
    (fun os started H enc _=>mV os started H enc)
theorem derivationRound_said :Rows.DerivationRoundCardSaid:=
  Claim7.holds_tied_plain_at .later [] [.data,.data,.data,.data,.pinned] true (true,"21008691179fbc5e685a549e14076cf73832ee6f24894afe5decf201da899196") false pJ (fun _ h=>by cases h) (by kernel_rfl) (fun _ h=>by cases h) derivationRound_row_tie rfl ⟨rfl,rfl⟩ (by kernel_rfl) rfl
    (fun f fn hf hfn=>by
      obtain rfl:f=6:=Option.some.inj ((show Tryz.prog.funcNamed "admission/admissionlaw31.DerivationRound" =some 6 by kernel_rfl).symm.trans hf)|>.symm;obtain rfl:fn=Tryz.f6:=(Option.some.inj (Tryz.func6.symm.trans hfn)).symm;exact⟨by kernel_rfl,fun j t ht=>by
        rw[Tryz.params6]at ht;have hm:t∈[22]:=by simpa using Array.mem_of_getElem? ht
        have hall:([22].all fun u=>!Tryz.prog.wantsStandIn u)=true:=by kernel_rfl
        exact(show Tryz.prog.wantsStandIn t=false by simpa using List.all_eq_true.1 hall t hm)⟩)
    (by kernel_rfl)
#print axioms derivationRound_said
end Go.Proofs.YthedbjfipmkpiaaGreatDoor
