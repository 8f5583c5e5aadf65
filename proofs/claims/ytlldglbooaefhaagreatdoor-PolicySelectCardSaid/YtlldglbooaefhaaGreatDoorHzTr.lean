/- Part of a proof: walks of functions of the program, by contracts, and the rules they use. By an AI agent. -/
import Derived.Test.YtlldglbooaefhaaGreatDoorHzU1
import Derived.Test.YtlldglbooaefhaaGreatDoorHzTm
import Derived.Test.YtlldglbooaefhaaGreatDoorHlTlaw
import Derived.Test.YtlldglbooaefhaaGreatDoorPl28p
set_option linter.unusedSimpArgs false
set_option linter.unusedVariables false
set_option linter.defProp false
namespace Go.Proofs.YtlldglbooaefhaaGreatDoor
open Go Go.Hl Go.Pl
set_option maxRecDepth 10000
set_option maxHeartbeats 16000000
theorem nO (ls:List (List aH))(a:Nat)(w:aH)(ha:ls.length<2^40):aQ9 Tryz.prog 130 94 (rdr ls a) [.str w,.slc []] (fun u v'=>u= .bool (isV ls a w 1)∧v'=rdr ls (if isV ls a w 1 then a+1 else a)):=by
 refine bS Tryz.func130 rfl (by kernel_rfl) (cR _ _ _) (Nat.le_of_ble_eq_true rfl) ?_;refine R0 ?_;refine aC fun K hK=>?_;refine aC fun K hK=>Rg ?_;iterate 5 refine S0 ?_
 refine HS rfl rfl fun K' hK'=>T5 ?_;refine bI (args:=[_,_]) (aA1 ls a 1 w (by omega)) rfl (by simp) ⟨rfl,rfl,rfl,rfl⟩ ?_;rintro u v' ⟨rfl,rfl⟩;refine AX (hK' _ _ ?_);clear hK' K';refine S0 ?_;refine T2 (hK _ _ _ ?_);clear hK K;refine aJ (b:=!isV ls a w 1) rfl (fun hb=>?_) (fun hb=>?_)
 ·
  refine R0 ?_;refine aF (RT Tryz.results130 ?_);have hv:isV ls a w 1=false:=by simpa using hb
  refine eW [] (.bool false) (rdr ls a) rfl rfl (by simp[HV.close,HV.closeL,rdr,CV.denil,CV.denilL,aS,HV.norm,HV.toC,HV.toCL]) (by simp) ⟨by rw[hv],by rw[hv];rfl⟩
 refine aK ?_;refine T0 (hK _ _ _ ?_);clear hK K;refine aC fun K hK=>?_;have hv:isV ls a w 1=true:=by simpa using hb
 obtain⟨hl,hl1,hl2⟩:=fU hv;rw[hv];clear hb;refine R0 ?_;refine aL ?_;refine bF (α:={i:Nat//i=0}) (fun i=>(fin [(0,.ptr 0 0),(18,.c (.slc [])),(19,.c (.int .i64 0)),(20,.c (.int .i64 0))],fob [(0,.box 94 (.c (rdr ls a)))])) 100 (fun i=>0) ⟨0,rfl⟩ (fF) ?_;rintro⟨i,hi⟩;refine R0 ?_;refine aC fun K hK=>?_;refine CF rfl ?_;refine bA (T3 ?_);clear hK K;refine AX (hK _ _ _ ?_);clear hK K;have hw:IntKind.i64.wrap ((a:Int)+1)=((a+1:Nat):Int):=IntWalk.i64_in _ (by omega);refine aC fun K hK=>Rg ?_;iterate 8 refine S0 ?_ (e:=fun _ h_=>by simp only[sH,↓sP,sA,tyS,simprocAttr,rdr,hw];exact AX h_)
 refine T2 (hK _ _ _ ?_);clear hK K;refine R0 ?_;refine aF (RT Tryz.results130 ?_);refine eW [] (.bool true) (rdr ls (a+1)) rfl rfl (by simp[HV.close,HV.closeL,rdr,CV.denil,CV.denilL,aS,HV.norm,HV.toC,HV.toCL]) (by simp) ⟨by rw[hv],by rw[hv];rfl⟩
theorem cJ2 (ls:List (List aH))(a:Nat)(x:Int):lst [.box 94 (.c (rdr ls a)),.hrow 176 1 [.ptr 2 0],.box 2 (.c (.int .i64 x))]=fob [(0,.box 94 (.c (rdr ls a))),(1,.hrow 176 1 [.ptr 2 0]),(2,.box 2 (.c (.int .i64 x)))]:=by
 funext i
 match i with
 |0=>rfl
 |1=>rfl
 |2=>rfl
 |i+3=>simp[lst,fob,upd]
theorem bR7 (ls:List (List aH))(a:Nat)(w:aH)(x:Int)(ha:ls.length<2^40):
  HGe Tryz.prog 130 [.ptr 0 0,.c (.str w),.own 1 1] [.box 94 (.c (rdr ls a)),.hrow 176 1 [.ptr 2 0],.box 2 (.c (.int .i64 x))]
   (fun r os'=>r= .c (.bool (fS ls a w).isSome)∧os'=[.box 94 (.c (rdr ls (if(fS ls a w).isSome then a+1 else a))),.hrow 176 1 [.ptr 2 0],.box 2 (.c (.int .i64 ((fS ls a w).getD x)))]):=by
 refine bS (args:=[.ptr 0 0,.c (.str w),.own 1 1]) Tryz.func130 rfl (by kernel_rfl) (fA rfl (by simp[eC,HO.men,HV.men,HV.menL]) (by simp[HV.menL,HV.men])) (Nat.le_of_ble_eq_true rfl) ?_;show Hw _ _ 3 _ _ _ (lst _) 3;rw[cJ2];refine R0 ?_;refine aC fun K hK=>?_;refine aC fun K hK=>bH (by kernel_rfl) ?_;simp only[sR,simprocAttr];iterate 3 refine SG0 ?_
 refine bY (g:=none) rfl rfl fun K' hK'=>?_;simp only[sN,↓hopH.eq_def,sH,↓sP,sA,tyS,simprocAttr];refine AX (hK' _ _ ?_);clear hK' K';refine SG0 ?_;refine bK (g:=none) rfl rfl fun K' hK'=>T5 ?_;refine bI (args:=[_,_]) (aA1 ls a 2 w (by omega)) rfl (by simp) ⟨rfl,rfl,rfl,rfl⟩ ?_;rintro u v' ⟨rfl,rfl⟩;refine AX (hK' _ _ ?_);clear hK' K';refine SG0 ?_;refine T2 (hK _ _ _ ?_);clear hK K;refine aJ (b:=!isV ls a w 2) rfl (fun hb=>?_) (fun hb=>?_)
 ·
  refine R0 ?_;refine aF (RT Tryz.results130 ?_);have hv:isV ls a w 2=false:=by simpa using hb
  rw[bY1 hv];exact dZ [] [] (.c (.bool false)) [.box 94 (.c (rdr ls a)),.hrow 176 1 [.ptr 2 0],.box 2 (.c (.int .i64 x))] rfl (by simp[HV.men]) (⟨⟨by simp[HO.men,HV.men],by simp,_,rfl,by simp[HO.close,HV.close,HV.closeL,HO.ren,HV.ren,HV.renL,tau,CV.denil,HV.norm,fN,upd_at,fob_at,HV.toC,HV.toCL,rdr,CV.denilL,aS]⟩,⟨by simp[HO.men,HV.men,HV.menL],by simp,_,rfl,by simp[HO.close,HV.close,HV.closeL,HO.ren,HV.ren,HV.renL,tau,CV.denil,HV.norm,fN,upd_at,fob_at,HV.toC,HV.toCL]⟩,⟨by simp[HO.men,HV.men],by simp,_,rfl,by simp[HO.close,HV.close,HV.closeL,HO.ren,HV.ren,HV.renL,tau,CV.denil,HV.norm,fN,upd_at,fob_at,HV.toC,HV.toCL]⟩,trivial⟩) rfl List.nodup_nil (by simp) (by simp) ⟨rfl,rfl⟩
 refine aK ?_;refine T0 (hK _ _ _ ?_);clear hK K;refine aC fun K hK=>?_;have hv:isV ls a w 2=true:=by simpa using hb
 obtain⟨hl,hl1,hl2⟩:=fU hv;have hnum:=aE4 hv hl;have hw:IntKind.i64.wrap ((a:Int)+1)=((a+1:Nat):Int):=IntWalk.i64_in _ (by omega);clear hb;refine aC fun K hK=>bH (by kernel_rfl) ?_;simp only[sR,simprocAttr];refine SG0 ?_;refine bY (g:=none) rfl rfl fun K' hK'=>?_;simp only[sN,↓hopH.eq_def,sH,↓sP,sA,tyS,simprocAttr];refine AX (hK' _ _ ?_);clear hK' K';refine SG0 ?_;refine T2 (hK _ _ _ ?_);clear hK K;refine aL ?_;refine bF (α:={y:Nat×Int//(y.1=0∧y.2=x)∨(y.1=1∧bL (wd ls[a] 1)=some y.2)}) (fun y=>(fin [(0,.ptr 0 0),(18,.own 1 1),(19,.c (.int .i64 1)),(20,.c (.int .i64 y.1.1))],fob [(0,.box 94 (.c (rdr ls a))),(1,.hrow 176 1 [.ptr 2 0]),(2,.box 2 (.c (.int .i64 y.1.2)))])) 100 (fun y=>1-y.1.1) ⟨(0,x),.inl ⟨rfl,rfl⟩⟩ (fF) ?_;rintro⟨⟨i,y⟩,hiy⟩;simp only at hiy;refine R0 ?_;refine aC fun K hK=>?_;refine aJ (b:=decide ((i:Int)<1)) rfl (fun hb=>?_) (fun hb=>?_)
 ·
  have hi0:i=0:=by simp at hb;omega
  subst hi0;obtain rfl:y=x:=by rcases hiy with h|h;exact h.2;exact absurd h.1 (by decide)
  clear hb;refine aK ?_;refine T0 (hK _ _ _ ?_);clear hK K;refine aC fun K hK=>?_;refine aL ?_;refine aC fun K hK=>bH (by kernel_rfl) ?_;simp only[sR,simprocAttr];refine SG0 ?_;refine bY (g:=none) rfl rfl fun K' hK'=>?_;simp only[sN,↓hopH.eq_def,sH,↓sP,sA,tyS,simprocAttr];refine AX (hK' _ _ ?_);clear hK' K';refine bY (g:=none) rfl rfl fun K' hK'=>?_;simp only[sN,↓hopH.eq_def,sH,↓sP,sA,tyS,simprocAttr];refine AX (hK' _ _ ?_);clear hK' K';iterate 2 refine SG0 ?_
  refine T2 (hK _ _ _ ?_);clear hK K;refine aC fun K hK=>Rg ?_;iterate 3 refine S0 ?_
  refine HS rfl rfl fun K' hK'=>T5 ?_;refine dS (args:=[_]) (lB ls a 1 hl (by omega)) rfl (by simp) ⟨rfl,rfl,rfl,rfl⟩ ?_;rintro u x' v' ⟨rfl,rfl,rfl⟩;refine AX (hK' _ _ ?_);clear hK' K';iterate 5 refine S0 ?_
  refine T2 (hK _ _ _ ?_);clear hK K;refine aC fun K hK=>?_;refine R0 ?_;refine aJ (b:=!(bL (wd ls[a] 1)).isSome) rfl (fun hb=>?_) (fun hb=>?_)
  ·
   have hno:bL (wd ls[a] 1)=none:=by simpa using hb
   rw[hno]at hnum;refine R0 ?_;refine aF (RT Tryz.results130 ?_);rw[hnum];exact dZ [] [] (.c (.bool false)) [.box 94 (.c (rdr ls a)),.hrow 176 1 [.ptr 2 0],.box 2 (.c (.int .i64 y))] rfl (by simp[HV.men]) (⟨⟨by simp[HO.men,HV.men],by simp,_,rfl,by simp[HO.close,HV.close,HV.closeL,HO.ren,HV.ren,HV.renL,tau,CV.denil,HV.norm,fN,upd_at,fob_at,HV.toC,HV.toCL,rdr,CV.denilL,aS]⟩,⟨by simp[HO.men,HV.men,HV.menL],by simp,_,rfl,by simp[HO.close,HV.close,HV.closeL,HO.ren,HV.ren,HV.renL,tau,CV.denil,HV.norm,fN,upd_at,fob_at,HV.toC,HV.toCL]⟩,⟨by simp[HO.men,HV.men],by simp,_,rfl,by simp[HO.close,HV.close,HV.closeL,HO.ren,HV.ren,HV.renL,tau,CV.denil,HV.norm,fN,upd_at,fob_at,HV.toC,HV.toCL]⟩,trivial⟩) rfl List.nodup_nil (by simp) (by simp) ⟨rfl,rfl⟩
  obtain⟨n,hn⟩: ∃n,bL (wd ls[a] 1)=some n:=by
   cases h:bL (wd ls[a] 1)with
   |none=>rw[h]at hb;simp at hb
   |some n=>exact⟨n,rfl⟩
  simp only[hn,Option.getD_some,Option.isSome_some,Bool.not_true];clear hb;refine aK ?_;refine T0 (hK _ _ _ ?_);clear hK K;refine Rg ?_;iterate 4 refine S0 ?_
  refine T2 (hK _ _ _ ?_);clear hK K;refine aM (by kernel_rfl) ?_;refine TQ (show IntKind.i64.wrap 1=1 from rfl) ?_;refine⟨⟨(1,n),.inr ⟨rfl,hn⟩⟩,fF,?_⟩;show 1-1<1-0;omega
 refine bA (T3 ?_);clear hK K;refine AX (hK _ _ _ ?_);clear hK K;obtain⟨rfl,hn⟩:i=1∧bL (wd ls[a] 1)=some y:=by
  rcases hiy with h|h
  · rw[h.1]at hb;simp at hb
  exact h
 clear hb;refine aC fun K hK=>Rg ?_;iterate 8 refine S0 ?_ (e:=fun _ h_=>by simp only[sH,↓sP,sA,tyS,simprocAttr,rdr,hw];exact AX h_)
 refine T2 (hK _ _ _ ?_);clear hK K;refine R0 ?_;refine aF (RT Tryz.results130 ?_);rw[hnum,hn];exact dZ [] [] (.c (.bool true)) [.box 94 (.c (rdr ls (a+1))),.hrow 176 1 [.ptr 2 0],.box 2 (.c (.int .i64 y))] rfl (by simp[HV.men]) (⟨⟨by simp[HO.men,HV.men],by simp,_,rfl,by simp[HO.close,HV.close,HV.closeL,HO.ren,HV.ren,HV.renL,tau,CV.denil,HV.norm,fN,upd_at,fob_at,HV.toC,HV.toCL,rdr,CV.denilL,aS]⟩,⟨by simp[HO.men,HV.men,HV.menL],by simp,_,rfl,by simp[HO.close,HV.close,HV.closeL,HO.ren,HV.ren,HV.renL,tau,CV.denil,HV.norm,fN,upd_at,fob_at,HV.toC,HV.toCL]⟩,⟨by simp[HO.men,HV.men],by simp,_,rfl,by simp[HO.close,HV.close,HV.closeL,HO.ren,HV.ren,HV.renL,tau,CV.denil,HV.norm,fN,upd_at,fob_at,HV.toC,HV.toCL]⟩,trivial⟩) rfl List.nodup_nil (by simp) (by simp) ⟨rfl,rfl⟩
theorem cJ3 (ls:List (List aH))(a:Nat)(x y:Int):lst [.box 94 (.c (rdr ls a)),.hrow 176 1 [.ptr 2 0,.ptr 3 0],.box 2 (.c (.int .i64 x)),.box 2 (.c (.int .i64 y))]=fob [(0,.box 94 (.c (rdr ls a))),(1,.hrow 176 1 [.ptr 2 0,.ptr 3 0]),(2,.box 2 (.c (.int .i64 x))),(3,.box 2 (.c (.int .i64 y)))]:=by
 funext i
 match i with
 |0=>rfl
 |1=>rfl
 |2=>rfl
 |3=>rfl
 |i+4=>simp[lst,fob,upd]
theorem bR8 (ls:List (List aH))(a:Nat)(w:aH)(x y:Int)(ha:ls.length<2^40):
  HGe Tryz.prog 130 [.ptr 0 0,.c (.str w),.own 1 2] [.box 94 (.c (rdr ls a)),.hrow 176 1 [.ptr 2 0,.ptr 3 0],.box 2 (.c (.int .i64 x)),.box 2 (.c (.int .i64 y))]
   (fun r os'=>r= .c (.bool (lZ ls a w).isSome)∧ ∃x' y',os'=[.box 94 (.c (rdr ls (if(lZ ls a w).isSome then a+1 else a))),.hrow 176 1 [.ptr 2 0,.ptr 3 0],.box 2 (.c (.int .i64 x')),.box 2 (.c (.int .i64 y'))]∧ ∀n m,lZ ls a w=some (n,m)→x'=n∧y'=m):=by
 refine bS (args:=[.ptr 0 0,.c (.str w),.own 1 2]) Tryz.func130 rfl (by kernel_rfl) (fA rfl (by simp[eC,HO.men,HV.men,HV.menL]) (by simp[HV.menL,HV.men])) (Nat.le_of_ble_eq_true rfl) ?_;show Hw _ _ 4 _ _ _ (lst _) 4;rw[cJ3];refine R0 ?_;refine aC fun K hK=>?_;refine aC fun K hK=>bH (by kernel_rfl) ?_;simp only[sR,simprocAttr];iterate 3 refine SG0 ?_
 refine bY (g:=none) rfl rfl fun K' hK'=>?_;simp only[sN,↓hopH.eq_def,sH,↓sP,sA,tyS,simprocAttr];refine AX (hK' _ _ ?_);clear hK' K';refine SG0 ?_;refine bK (g:=none) rfl rfl fun K' hK'=>T5 ?_;refine bI (args:=[_,_]) (aA1 ls a 3 w (by omega)) rfl (by simp) ⟨rfl,rfl,rfl,rfl⟩ ?_;rintro u v' ⟨rfl,rfl⟩;refine AX (hK' _ _ ?_);clear hK' K';refine SG0 ?_;refine T2 (hK _ _ _ ?_);clear hK K;refine aJ (b:=!isV ls a w 3) rfl (fun hb=>?_) (fun hb=>?_)
 ·
  refine R0 ?_;refine aF (RT Tryz.results130 ?_);have hv:isV ls a w 3=false:=by simpa using hb
  rw[bY2 hv];exact dZ [] [] (.c (.bool false)) [.box 94 (.c (rdr ls a)),.hrow 176 1 [.ptr 2 0,.ptr 3 0],.box 2 (.c (.int .i64 x)),.box 2 (.c (.int .i64 y))] rfl (by simp[HV.men]) (⟨⟨by simp[HO.men,HV.men],by simp,_,rfl,by simp[HO.close,HV.close,HV.closeL,HO.ren,HV.ren,HV.renL,tau,CV.denil,HV.norm,fN,upd_at,fob_at,HV.toC,HV.toCL,rdr,CV.denilL,aS]⟩,⟨by simp[HO.men,HV.men,HV.menL],by simp,_,rfl,by simp[HO.close,HV.close,HV.closeL,HO.ren,HV.ren,HV.renL,tau,CV.denil,HV.norm,fN,upd_at,fob_at,HV.toC,HV.toCL,rdr,CV.denilL,aS]⟩,⟨by simp[HO.men,HV.men],by simp,_,rfl,by simp[HO.close,HV.close,HV.closeL,HO.ren,HV.ren,HV.renL,tau,CV.denil,HV.norm,fN,upd_at,fob_at,HV.toC,HV.toCL,rdr,CV.denilL,aS]⟩,⟨by simp[HO.men,HV.men],by simp,_,rfl,by simp[HO.close,HV.close,HV.closeL,HO.ren,HV.ren,HV.renL,tau,CV.denil,HV.norm,fN,upd_at,fob_at,HV.toC,HV.toCL,rdr,CV.denilL,aS]⟩,trivial⟩) rfl List.nodup_nil (by simp) (by simp) ⟨rfl,x,y,rfl,fun n m h=>by cases h⟩
 refine aK ?_;refine T0 (hK _ _ _ ?_);clear hK K;refine aC fun K hK=>?_;have hv:isV ls a w 3=true:=by simpa using hb
 obtain⟨hl,hl1,hl2⟩:=fU hv;have hnum:=aZ3 hv hl;have hw:IntKind.i64.wrap ((a:Int)+1)=((a+1:Nat):Int):=IntWalk.i64_in _ (by omega);clear hb;refine aC fun K hK=>bH (by kernel_rfl) ?_;simp only[sR,simprocAttr];refine SG0 ?_;refine bY (g:=none) rfl rfl fun K' hK'=>?_;simp only[sN,↓hopH.eq_def,sH,↓sP,sA,tyS,simprocAttr];refine AX (hK' _ _ ?_);clear hK' K';refine SG0 ?_;refine T2 (hK _ _ _ ?_);clear hK K;refine aL ?_;refine bF (α:={y':Nat×Int×Int//(y'.1=0∧y'.2=(x,y))∨(y'.1=1∧bL (wd ls[a] 1)=some y'.2.1∧y'.2.2=y)∨(y'.1=2∧bL (wd ls[a] 1)=some y'.2.1∧bL (wd ls[a] 2)=some y'.2.2)}) (fun y'=>(fin [(0,.ptr 0 0),(18,.own 1 2),(19,.c (.int .i64 2)),(20,.c (.int .i64 y'.1.1))],fob [(0,.box 94 (.c (rdr ls a))),(1,.hrow 176 1 [.ptr 2 0,.ptr 3 0]),(2,.box 2 (.c (.int .i64 y'.1.2.1))),(3,.box 2 (.c (.int .i64 y'.1.2.2)))])) 100 (fun y'=>2-y'.1.1) ⟨(0,x,y),.inl ⟨rfl,rfl⟩⟩ (fF) ?_;rintro⟨⟨i,x1,y1⟩,hiy⟩;simp only[Prod.mk.injEq]at hiy;refine R0 ?_;refine aC fun K hK=>?_;refine aJ (b:=decide ((i:Int)<2)) rfl (fun hb=>?_) (fun hb=>?_)
 ·
  have hi2:i<2:=by simp at hb;omega
  clear hb;refine aK ?_;refine T0 (hK _ _ _ ?_);clear hK K;refine aC fun K hK=>?_;refine aL ?_;by_cases hi0:i=0
  ·
   subst hi0;refine aC fun K hK=>bH (by kernel_rfl) ?_;simp only[sR,simprocAttr];refine SG0 ?_;refine bY (g:=none) rfl rfl fun K' hK'=>?_;simp only[sN,↓hopH.eq_def,sH,↓sP,sA,tyS,simprocAttr];refine AX (hK' _ _ ?_);clear hK' K';refine bY (g:=none) rfl rfl fun K' hK'=>?_;simp only[sN,↓hopH.eq_def,sH,↓sP,sA,tyS,simprocAttr];refine AX (hK' _ _ ?_);clear hK' K';iterate 2 refine SG0 ?_
   refine T2 (hK _ _ _ ?_);clear hK K;refine aC fun K hK=>Rg ?_;iterate 3 refine S0 ?_
   refine HS rfl rfl fun K' hK'=>T5 ?_;refine dS (args:=[_]) (lB ls a 1 hl (by omega)) rfl (by simp) ⟨rfl,rfl,rfl,rfl⟩ ?_;rintro u x' v' ⟨rfl,rfl,rfl⟩;refine AX (hK' _ _ ?_);clear hK' K';iterate 5 refine S0 ?_
   refine T2 (hK _ _ _ ?_);clear hK K;refine aC fun K hK=>?_;refine R0 ?_;refine aJ (b:=!(bL (wd ls[a] 1)).isSome) rfl (fun hb=>?_) (fun hb=>?_)
   ·
    have hno:bL (wd ls[a] 1)=none:=by simpa using hb
    rw[hno]at hnum;have hnum:lZ ls a w=none:=hnum;refine R0 ?_;refine aF (RT Tryz.results130 ?_);rw[hnum];exact dZ [] [] (.c (.bool false)) [.box 94 (.c (rdr ls a)),.hrow 176 1 [.ptr 2 0,.ptr 3 0],.box 2 (.c (.int .i64 x1)),.box 2 (.c (.int .i64 y1))] rfl (by simp[HV.men]) (⟨⟨by simp[HO.men,HV.men],by simp,_,rfl,by simp[HO.close,HV.close,HV.closeL,HO.ren,HV.ren,HV.renL,tau,CV.denil,HV.norm,fN,upd_at,fob_at,HV.toC,HV.toCL,rdr,CV.denilL,aS]⟩,⟨by simp[HO.men,HV.men,HV.menL],by simp,_,rfl,by simp[HO.close,HV.close,HV.closeL,HO.ren,HV.ren,HV.renL,tau,CV.denil,HV.norm,fN,upd_at,fob_at,HV.toC,HV.toCL,rdr,CV.denilL,aS]⟩,⟨by simp[HO.men,HV.men],by simp,_,rfl,by simp[HO.close,HV.close,HV.closeL,HO.ren,HV.ren,HV.renL,tau,CV.denil,HV.norm,fN,upd_at,fob_at,HV.toC,HV.toCL,rdr,CV.denilL,aS]⟩,⟨by simp[HO.men,HV.men],by simp,_,rfl,by simp[HO.close,HV.close,HV.closeL,HO.ren,HV.ren,HV.renL,tau,CV.denil,HV.norm,fN,upd_at,fob_at,HV.toC,HV.toCL,rdr,CV.denilL,aS]⟩,trivial⟩) rfl List.nodup_nil (by simp) (by simp) ⟨rfl,_,_,rfl,fun n m h=>by cases h⟩
   obtain⟨n,hn⟩: ∃n,bL (wd ls[a] 1)=some n:=by
    cases h:bL (wd ls[a] 1)with
    |none=>rw[h]at hb;simp at hb
    |some n=>exact⟨n,rfl⟩
   simp only[hn,Option.getD_some,Option.isSome_some,Bool.not_true];clear hb;refine aK ?_;refine T0 (hK _ _ _ ?_);clear hK K;refine Rg ?_;iterate 4 refine S0 ?_
   refine T2 (hK _ _ _ ?_);clear hK K;refine aM (by kernel_rfl) ?_;simp only[↓sP,sA,tyS,simprocAttr,(show IntKind.i64.wrap 1=1 from rfl),(show IntKind.i64.wrap 2=2 from rfl)];refine⟨⟨(1,n,y1),.inr (.inl ⟨rfl,hn,by rcases hiy with h|h|h;exact h.2.2;exact absurd h.1 (by decide);exact absurd h.1 (by decide)⟩)⟩,fF,?_⟩;show 2-1<2-0;omega
  obtain rfl:i=1:=by omega
  have h1:bL (wd ls[a] 1)=some x1:=by
   rcases hiy with h|h|h
   · omega
   · exact h.2.1
   omega
  refine aC fun K hK=>bH (by kernel_rfl) ?_;simp only[sR,simprocAttr];refine SG0 ?_;refine bY (g:=none) rfl rfl fun K' hK'=>?_;simp only[sN,↓hopH.eq_def,sH,↓sP,sA,tyS,simprocAttr];refine AX (hK' _ _ ?_);clear hK' K';refine bY (g:=none) rfl rfl fun K' hK'=>?_;simp only[sN,↓hopH.eq_def,sH,↓sP,sA,tyS,simprocAttr];refine AX (hK' _ _ ?_);clear hK' K';iterate 2 refine SG0 ?_
  refine T2 (hK _ _ _ ?_);clear hK K;refine aC fun K hK=>Rg ?_;iterate 3 refine S0 ?_
  refine HS rfl rfl fun K' hK'=>T5 ?_;refine dS (args:=[_]) (lB ls a 2 hl (by omega)) rfl (by simp) ⟨rfl,rfl,rfl,rfl⟩ ?_;rintro u x' v' ⟨rfl,rfl,rfl⟩;refine AX (hK' _ _ ?_);clear hK' K';iterate 5 refine S0 ?_
  refine T2 (hK _ _ _ ?_);clear hK K;refine aC fun K hK=>?_;refine R0 ?_;refine aJ (b:=!(bL (wd ls[a] 2)).isSome) rfl (fun hb=>?_) (fun hb=>?_)
  ·
   have hno:bL (wd ls[a] 2)=none:=by simpa using hb
   rw[hno,h1]at hnum;have hnum:lZ ls a w=none:=hnum;refine R0 ?_;refine aF (RT Tryz.results130 ?_);rw[hnum];exact dZ [] [] (.c (.bool false)) [.box 94 (.c (rdr ls a)),.hrow 176 1 [.ptr 2 0,.ptr 3 0],.box 2 (.c (.int .i64 x1)),.box 2 (.c (.int .i64 y1))] rfl (by simp[HV.men]) (⟨⟨by simp[HO.men,HV.men],by simp,_,rfl,by simp[HO.close,HV.close,HV.closeL,HO.ren,HV.ren,HV.renL,tau,CV.denil,HV.norm,fN,upd_at,fob_at,HV.toC,HV.toCL,rdr,CV.denilL,aS]⟩,⟨by simp[HO.men,HV.men,HV.menL],by simp,_,rfl,by simp[HO.close,HV.close,HV.closeL,HO.ren,HV.ren,HV.renL,tau,CV.denil,HV.norm,fN,upd_at,fob_at,HV.toC,HV.toCL,rdr,CV.denilL,aS]⟩,⟨by simp[HO.men,HV.men],by simp,_,rfl,by simp[HO.close,HV.close,HV.closeL,HO.ren,HV.ren,HV.renL,tau,CV.denil,HV.norm,fN,upd_at,fob_at,HV.toC,HV.toCL,rdr,CV.denilL,aS]⟩,⟨by simp[HO.men,HV.men],by simp,_,rfl,by simp[HO.close,HV.close,HV.closeL,HO.ren,HV.ren,HV.renL,tau,CV.denil,HV.norm,fN,upd_at,fob_at,HV.toC,HV.toCL,rdr,CV.denilL,aS]⟩,trivial⟩) rfl List.nodup_nil (by simp) (by simp) ⟨rfl,_,_,rfl,fun n m h=>by cases h⟩
  obtain⟨n,hn⟩: ∃n,bL (wd ls[a] 2)=some n:=by
   cases h:bL (wd ls[a] 2)with
   |none=>rw[h]at hb;simp at hb
   |some n=>exact⟨n,rfl⟩
  simp only[hn,Option.getD_some,Option.isSome_some,Bool.not_true];clear hb;refine aK ?_;refine T0 (hK _ _ _ ?_);clear hK K;refine Rg ?_;iterate 4 refine S0 ?_
  refine T2 (hK _ _ _ ?_);clear hK K;refine aM (by kernel_rfl) ?_;simp only[↓sP,sA,tyS,simprocAttr,(show IntKind.i64.wrap 1=1 from rfl),(show IntKind.i64.wrap 2=2 from rfl)];refine⟨⟨(2,x1,n),.inr (.inr ⟨rfl,h1,hn⟩)⟩,fF,?_⟩;show 2-2<2-1;omega
 refine bA (T3 ?_);clear hK K;refine AX (hK _ _ _ ?_);clear hK K;obtain⟨rfl,h1,h2⟩:i=2∧bL (wd ls[a] 1)=some x1∧bL (wd ls[a] 2)=some y1:=by
  rcases hiy with h|h|h
  · rw[h.1]at hb;simp at hb
  · rw[h.1]at hb;simp at hb
  exact h
 have hnum:lZ ls a w=some (x1,y1):=by rw[hnum,h1,h2]
 clear hb;refine aC fun K hK=>Rg ?_;iterate 8 refine S0 ?_ (e:=fun _ h_=>by simp only[sH,↓sP,sA,tyS,simprocAttr,rdr,hw];exact AX h_)
 refine T2 (hK _ _ _ ?_);clear hK K;refine R0 ?_;refine aF (RT Tryz.results130 ?_);rw[hnum];exact dZ [] [] (.c (.bool true)) [.box 94 (.c (rdr ls (a+1))),.hrow 176 1 [.ptr 2 0,.ptr 3 0],.box 2 (.c (.int .i64 x1)),.box 2 (.c (.int .i64 y1))] rfl (by simp[HV.men]) (⟨⟨by simp[HO.men,HV.men],by simp,_,rfl,by simp[HO.close,HV.close,HV.closeL,HO.ren,HV.ren,HV.renL,tau,CV.denil,HV.norm,fN,upd_at,fob_at,HV.toC,HV.toCL,rdr,CV.denilL,aS]⟩,⟨by simp[HO.men,HV.men,HV.menL],by simp,_,rfl,by simp[HO.close,HV.close,HV.closeL,HO.ren,HV.ren,HV.renL,tau,CV.denil,HV.norm,fN,upd_at,fob_at,HV.toC,HV.toCL,rdr,CV.denilL,aS]⟩,⟨by simp[HO.men,HV.men],by simp,_,rfl,by simp[HO.close,HV.close,HV.closeL,HO.ren,HV.ren,HV.renL,tau,CV.denil,HV.norm,fN,upd_at,fob_at,HV.toC,HV.toCL,rdr,CV.denilL,aS]⟩,⟨by simp[HO.men,HV.men],by simp,_,rfl,by simp[HO.close,HV.close,HV.closeL,HO.ren,HV.ren,HV.renL,tau,CV.denil,HV.norm,fN,upd_at,fob_at,HV.toC,HV.toCL,rdr,CV.denilL,aS]⟩,trivial⟩) rfl List.nodup_nil (by simp) (by simp) ⟨rfl,_,_,rfl,fun n m h=>by cases h;exact⟨rfl,rfl⟩⟩
variable {x:Int}{a nid:Nat}{ls:List (List aH)}{K:HV→Ob→Prop}{ob:Ob}{av:List Nat}
theorem gW (w:aH){id idh ix:Nat}(hl:ls.length<2^40)(h1:ob id=some (.box 94 (.c (rdr ls a))))(h2:ob idh=some (.hrow 176 1 [.ptr ix 0]))(h3:ob ix=some (.box 2 (.c (.int .i64 x))))
  (hn:[id,idh,ix].Nodup) (hav: ∀s∈[id,idh,ix],s∉av) (hfree:Free4 ob nid)
  (hK:K (.c (.bool (fS ls a w).isSome)) (upd (upd (upd ob id (some (.box 94 (.c (rdr ls (if(fS ls a w).isSome then a+1 else a)))))) idh (some (.hrow 176 1 [.ptr ix 0]))) ix (some (.box 2 (.c (.int .i64 ((fS ls a w).getD x))))))):
  HCall Tryz.prog av 130 [.ptr id 0,.c (.str w),.own idh 1] ob nid K:=by
 refine fT [id,idh,ix] (bR7 ls a w x hl) rfl ⟨h1,h2,h3,trivial⟩ hn hav hfree (by simp[eC,HO.men,HV.men,HV.menL]) (by simp[HV.menL,HV.men]) ?_;rintro r os' ⟨rfl,rfl⟩;exact hK
theorem aU6 (w:aH){y:Int}{id idh ix iy:Nat}(hl:ls.length<2^40)(h1:ob id=some (.box 94 (.c (rdr ls a))))(h2:ob idh=some (.hrow 176 1 [.ptr ix 0,.ptr iy 0]))(h3:ob ix=some (.box 2 (.c (.int .i64 x))))(h4:ob iy=some (.box 2 (.c (.int .i64 y))))
  (hn:[id,idh,ix,iy].Nodup) (hav: ∀s∈[id,idh,ix,iy],s∉av) (hfree:Free4 ob nid)
  (hK: ∀x' y',(∀n m,lZ ls a w=some (n,m)→x'=n∧y'=m)→K (.c (.bool (lZ ls a w).isSome)) (upd (upd (upd (upd ob id (some (.box 94 (.c (rdr ls (if(lZ ls a w).isSome then a+1 else a)))))) idh (some (.hrow 176 1 [.ptr ix 0,.ptr iy 0]))) ix (some (.box 2 (.c (.int .i64 x'))))) iy (some (.box 2 (.c (.int .i64 y')))))):
  HCall Tryz.prog av 130 [.ptr id 0,.c (.str w),.own idh 2] ob nid K:=by
 refine fT [id,idh,ix,iy] (bR8 ls a w x y hl) rfl ⟨h1,h2,h3,h4,trivial⟩ hn hav hfree (by simp[eC,HO.men,HV.men,HV.menL]) (by simp[HV.menL,HV.men]) ?_;rintro r os' ⟨rfl,x',y',rfl,h⟩;exact hK x' y' h
theorem aO5 (ls:List (List aH))(a:Nat)(ha:ls.length<2^40):tA Tryz.prog 128 94 (rdr ls a) [] (fun u x v'=>u=((jQ ls a).getD rq0).cv∧x= .bool (jQ ls a).isSome∧v'=rdr ls (if(jQ ls a).isSome then a+1 else a)):=by
 refine bS Tryz.func128 rfl (by kernel_rfl) (cR _ _ _) (Nat.le_of_ble_eq_true rfl) ?_;refine R0 ?_;refine R0 ?_;refine aC fun K hK=>?_;refine aL ?_;refine aC fun K hK=>bH (by kernel_rfl) ?_;simp only[sR,simprocAttr];refine SG0 ?_;refine bY (g:=none) rfl rfl fun K' hK'=>?_;simp only[sN,↓hopH.eq_def,sH,↓sP,sA,tyS,simprocAttr];refine AX (hK' _ _ ?_);clear hK' K';refine bK (g:=none) rfl rfl fun K' hK'=>T5 ?_;refine gW dL ha rfl rfl rfl (by decide) (by simp) ⟨rfl,rfl,rfl,rfl⟩ ?_;refine AX (hK' _ _ ?_);clear hK' K';refine SG0 ?_;refine T2 (hK _ _ _ ?_);clear hK K;refine aJ (b:=(fS ls a dL).isSome) rfl (fun hb=>?_) (fun hb=>?_)
 ·
  obtain⟨n,hn⟩:=Option.isSome_iff_exists.1 hb;obtain⟨hl,hl1,hl2,hl3⟩:=iW hn;have hreq:jQ ls a=some ⟨1,n,0,[]⟩:=by rw[fV hl,xR hl1 hl2,hl3];rfl
  simp only[hn,Option.isSome_some,if_true,Option.getD_some];refine aC fun K hK=>Rg ?_;iterate 4 refine S0 ?_
  refine T2 (hK _ _ _ ?_);clear hK K;refine aF (RT Tryz.results128 ?_);rw[hreq];exact bT [] (Rq.cv ⟨1,n,0,[]⟩) (.bool true) (rdr ls (a+1)) rfl rfl (by simp[HV.close,HV.closeL,rdr,CV.denil,CV.denilL,aS,HV.norm,HV.toC,HV.toCL]) (by simp) ⟨rfl,rfl,rfl⟩
 have hwReleased:fS ls a dL=none:=by simpa using hb
 simp only[hwReleased,Option.isSome_none,Bool.false_eq_true,if_false,Option.getD_none];clear hb;refine aC fun K hK=>Rg ?_;refine S0 ?_;refine HS rfl rfl fun K' hK'=>T5 ?_;refine bI (args:=[_,_]) (aA1 ls a 2 eD (by omega)) rfl (by simp) ⟨rfl,rfl,rfl,rfl⟩ ?_;rintro u v' ⟨rfl,rfl⟩;refine AX (hK' _ _ ?_);clear hK' K';refine S0 ?_;refine T2 (hK _ _ _ ?_);clear hK K;refine aJ (b:=isV ls a eD 2) rfl (fun hb=>?_) (fun hb=>?_)
 ·
  obtain⟨hl,hl1,hl2⟩:=fU hb;have hreq:jQ ls a=some ⟨2,0,0,wd ls[a] 1⟩:=by rw[fV hl,aE5 hl1 hl2]
  have hw:IntKind.i64.wrap ((a:Int)+1)=((a+1:Nat):Int):=IntWalk.i64_in _ (by omega);have hw2:IntKind.i64.wrap (((a+1:Nat):Int)-1)=(a:Int):=by rw[IntWalk.i64_in _ (by omega)];omega
  have h1:1<ls[a].length:=by omega
  refine aC fun K hK=>Rg ?_;iterate 8 refine S0 ?_ (e:=fun _ h_=>by simp only[sH,↓sP,sA,tyS,simprocAttr,rdr,hw];exact AX h_)
  refine T2 (hK _ _ _ ?_);clear hK K;refine aC fun K hK=>DW [(0,[],[]),(1,[],[]),(2,[],[]),(3,[],[]),(4,[],[]),(5,[],[]),(6,[],[]),(7,[],[]),(8,[],[]),(9,[],[]),(10,[],[]),(11,[],[]),(12,[],[]),(13,[],[]),(14,[],[]),(15,[],[])] [0,1,3,7,0,16,48,112,240,511,1023,2047,4095,8191,16383,32767] ?_;iterate 16 refine W0 ?_ (e:=fun _ h_=>by simp only[sH,↓sP,sA,tyS,simprocAttr,rdr,hw2,Int.natCast_nonneg,Int.ofNat_lt,hl,bR hl,lsC,wM h1,Int.one_nonneg,hl1];exact AX h_)
  refine T2 (hK _ _ _ ?_);clear hK K;refine aF (RT Tryz.results128 ?_);rw[hreq];exact bT [] (Rq.cv ⟨2,0,0,wd ls[a] 1⟩) (.bool true) (rdr ls (a+1)) rfl rfl (by simp[HV.close,HV.closeL,rdr,CV.denil,CV.denilL,aS,HV.norm,HV.toC,HV.toCL]) (by simp) ⟨rfl,rfl,rfl⟩
 have hChained:isV ls a eD 2=false:=hb;clear hb;refine aC fun K hK=>bH (by kernel_rfl) ?_;simp only[sR,simprocAttr];refine SG0 ?_;refine bY (g:=none) rfl rfl fun K' hK'=>?_;simp only[sN,↓hopH.eq_def,sH,↓sP,sA,tyS,simprocAttr];refine AX (hK' _ _ ?_);clear hK' K';refine bK (g:=none) rfl rfl fun K' hK'=>T5 ?_;refine gW dT ha rfl rfl rfl (by decide) (by simp) ⟨rfl,rfl,rfl,rfl⟩ ?_;refine AX (hK' _ _ ?_);clear hK' K';refine SG0 ?_;refine T2 (hK _ _ _ ?_);clear hK K;refine aJ (b:=(fS ls a dT).isSome) rfl (fun hb=>?_) (fun hb=>?_)
 ·
  obtain⟨n,hn⟩:=Option.isSome_iff_exists.1 hb;obtain⟨hl,hl1,hl2,hl3⟩:=iW hn;have hreq:jQ ls a=some ⟨3,n,0,[]⟩:=by rw[fV hl,xS hl1 hl2,hl3];rfl
  simp only[hn,Option.isSome_some,if_true,Option.getD_some];refine aC fun K hK=>Rg ?_;iterate 4 refine S0 ?_
  refine T2 (hK _ _ _ ?_);clear hK K;refine aF (RT Tryz.results128 ?_);rw[hreq];exact bT [] (Rq.cv ⟨3,n,0,[]⟩) (.bool true) (rdr ls (a+1)) rfl rfl (by simp[HV.close,HV.closeL,rdr,CV.denil,CV.denilL,aS,HV.norm,HV.toC,HV.toCL]) (by simp) ⟨rfl,rfl,rfl⟩
 have hwApproved:fS ls a dT=none:=by simpa using hb
 simp only[hwApproved,Option.isSome_none,Bool.false_eq_true,if_false,Option.getD_none];clear hb;refine aC fun K hK=>bH (by kernel_rfl) ?_;simp only[sR,simprocAttr];refine SG0 ?_;refine bY (g:=none) rfl rfl fun K' hK'=>?_;simp only[sN,↓hopH.eq_def,sH,↓sP,sA,tyS,simprocAttr];refine AX (hK' _ _ ?_);clear hK' K';refine bK (g:=none) rfl rfl fun K' hK'=>T5 ?_;refine aU6 fQ ha rfl rfl rfl rfl (by decide) (by simp) ⟨rfl,rfl,rfl,rfl⟩ ?_;intro x1 y1 hxy;refine AX (hK' _ _ ?_);clear hK' K';refine SG0 ?_;refine T2 (hK _ _ _ ?_);clear hK K;refine aJ (b:=(lZ ls a fQ).isSome) rfl (fun hb=>?_) (fun hb=>?_)
 ·
  obtain⟨⟨n,m⟩,hn⟩:=Option.isSome_iff_exists.1 hb;obtain⟨hl,hl1,hl2,hl3,hl4⟩:=bF5 hn;obtain⟨rfl,rfl⟩:=hxy _ _ hn;have hreq:jQ ls a=some ⟨4,x1,y1,[]⟩:=by rw[fV hl,aE6 hl1 hl2,hl3,hl4]
  simp only[hn,Option.isSome_some,if_true];refine aC fun K hK=>Rg ?_;iterate 5 refine S0 ?_
  refine T2 (hK _ _ _ ?_);clear hK K;refine aF (RT Tryz.results128 ?_);rw[hreq];exact bT [] (Rq.cv ⟨4,x1,y1,[]⟩) (.bool true) (rdr ls (a+1)) rfl rfl (by simp[HV.close,HV.closeL,rdr,CV.denil,CV.denilL,aS,HV.norm,HV.toC,HV.toCL]) (by simp) ⟨rfl,rfl,rfl⟩
 have hRebuilt:lZ ls a fQ=none:=by simpa using hb
 simp only[hRebuilt,Option.isSome_none,Bool.false_eq_true,if_false];clear hb;refine aC fun K hK=>bH (by kernel_rfl) ?_;simp only[sR,simprocAttr];refine SG0 ?_;refine bY (g:=none) rfl rfl fun K' hK'=>?_;simp only[sN,↓hopH.eq_def,sH,↓sP,sA,tyS,simprocAttr];refine AX (hK' _ _ ?_);clear hK' K';refine bK (g:=none) rfl rfl fun K' hK'=>T5 ?_;refine gW gO ha rfl rfl rfl (by decide) (by simp) ⟨rfl,rfl,rfl,rfl⟩ ?_;refine AX (hK' _ _ ?_);clear hK' K';refine SG0 ?_;refine T2 (hK _ _ _ ?_);clear hK K;refine aJ (b:=(fS ls a gO).isSome) rfl (fun hb=>?_) (fun hb=>?_)
 ·
  obtain⟨n,hn⟩:=Option.isSome_iff_exists.1 hb;obtain⟨hl,hl1,hl2,hl3⟩:=iW hn;have hreq:jQ ls a=some ⟨5,n,0,[]⟩:=by rw[fV hl,aN6 hl1 hl2,hl3];rfl
  simp only[hn,Option.isSome_some,if_true,Option.getD_some];refine aC fun K hK=>Rg ?_;iterate 4 refine S0 ?_
  refine T2 (hK _ _ _ ?_);clear hK K;refine aF (RT Tryz.results128 ?_);rw[hreq];exact bT [] (Rq.cv ⟨5,n,0,[]⟩) (.bool true) (rdr ls (a+1)) rfl rfl (by simp[HV.close,HV.closeL,rdr,CV.denil,CV.denilL,aS,HV.norm,HV.toC,HV.toCL]) (by simp) ⟨rfl,rfl,rfl⟩
 have hwListed:fS ls a gO=none:=by simpa using hb
 simp only[hwListed,Option.isSome_none,Bool.false_eq_true,if_false,Option.getD_none];clear hb;refine aC fun K hK=>bH (by kernel_rfl) ?_;simp only[sR,simprocAttr];refine SG0 ?_;refine bY (g:=none) rfl rfl fun K' hK'=>?_;simp only[sN,↓hopH.eq_def,sH,↓sP,sA,tyS,simprocAttr];refine AX (hK' _ _ ?_);clear hK' K';refine bK (g:=none) rfl rfl fun K' hK'=>T5 ?_;refine gW kH ha rfl rfl rfl (by decide) (by simp) ⟨rfl,rfl,rfl,rfl⟩ ?_;refine AX (hK' _ _ ?_);clear hK' K';refine SG0 ?_;refine T2 (hK _ _ _ ?_);clear hK K;refine aJ (b:=(fS ls a kH).isSome) rfl (fun hb=>?_) (fun hb=>?_)
 ·
  obtain⟨n,hn⟩:=Option.isSome_iff_exists.1 hb;obtain⟨hl,hl1,hl2,hl3⟩:=iW hn;have hreq:jQ ls a=some ⟨6,n,0,[]⟩:=by rw[fV hl,aT9 hl1 hl2,hl3];rfl
  simp only[hn,Option.isSome_some,if_true,Option.getD_some];refine aC fun K hK=>Rg ?_;iterate 4 refine S0 ?_
  refine T2 (hK _ _ _ ?_);clear hK K;refine aF (RT Tryz.results128 ?_);rw[hreq];exact bT [] (Rq.cv ⟨6,n,0,[]⟩) (.bool true) (rdr ls (a+1)) rfl rfl (by simp[HV.close,HV.closeL,rdr,CV.denil,CV.denilL,aS,HV.norm,HV.toC,HV.toCL]) (by simp) ⟨rfl,rfl,rfl⟩
 have hwClean:fS ls a kH=none:=by simpa using hb
 simp only[hwClean,Option.isSome_none,Bool.false_eq_true,if_false,Option.getD_none];clear hb;refine aC fun K hK=>bH (by kernel_rfl) ?_;simp only[sR,simprocAttr];refine SG0 ?_;refine bY (g:=none) rfl rfl fun K' hK'=>?_;simp only[sN,↓hopH.eq_def,sH,↓sP,sA,tyS,simprocAttr];refine AX (hK' _ _ ?_);clear hK' K';refine bK (g:=none) rfl rfl fun K' hK'=>T5 ?_;refine gW lQ ha rfl rfl rfl (by decide) (by simp) ⟨rfl,rfl,rfl,rfl⟩ ?_;refine AX (hK' _ _ ?_);clear hK' K';refine SG0 ?_;refine T2 (hK _ _ _ ?_);clear hK K;refine aJ (b:=(fS ls a lQ).isSome) rfl (fun hb=>?_) (fun hb=>?_)
 ·
  obtain⟨n,hn⟩:=Option.isSome_iff_exists.1 hb;obtain⟨hl,hl1,hl2,hl3⟩:=iW hn;have hreq:jQ ls a=some ⟨7,n,0,[]⟩:=by rw[fV hl,aU0 hl1 hl2,hl3];rfl
  simp only[hn,Option.isSome_some,if_true,Option.getD_some];refine aC fun K hK=>Rg ?_;iterate 4 refine S0 ?_
  refine T2 (hK _ _ _ ?_);clear hK K;refine aF (RT Tryz.results128 ?_);rw[hreq];exact bT [] (Rq.cv ⟨7,n,0,[]⟩) (.bool true) (rdr ls (a+1)) rfl rfl (by simp[HV.close,HV.closeL,rdr,CV.denil,CV.denilL,aS,HV.norm,HV.toC,HV.toCL]) (by simp) ⟨rfl,rfl,rfl⟩
 have hwFresh:fS ls a lQ=none:=by simpa using hb
 simp only[hwFresh,Option.isSome_none,Bool.false_eq_true,if_false,Option.getD_none];clear hb;refine aC fun K hK=>Rg ?_;refine S0 ?_;refine HS rfl rfl fun K' hK'=>T5 ?_;refine bI (args:=[_,_]) (nO ls a jE ha) rfl (by simp) ⟨rfl,rfl,rfl,rfl⟩ ?_;rintro u v' ⟨rfl,rfl⟩;refine AX (hK' _ _ ?_);clear hK' K';refine S0 ?_;refine T2 (hK _ _ _ ?_);clear hK K;refine aJ (b:=isV ls a jE 1) rfl (fun hb=>?_) (fun hb=>?_)
 ·
  obtain⟨hl,hl1,hl2⟩:=fU hb;have hreq:jQ ls a=some ⟨8,0,0,[]⟩:=by rw[fV hl,aE7 hl1 hl2]
  rw[hb];refine aC fun K hK=>Rg ?_;iterate 3 refine S0 ?_
  refine T2 (hK _ _ _ ?_);clear hK K;refine aF (RT Tryz.results128 ?_);rw[hreq];exact bT [] (Rq.cv ⟨8,0,0,[]⟩) (.bool true) (rdr ls (a+1)) rfl rfl (by simp[HV.close,HV.closeL,rdr,CV.denil,CV.denilL,aS,HV.norm,HV.toC,HV.toCL]) (by simp) ⟨rfl,rfl,rfl⟩
 have hno:jQ ls a=none:=bF6 hwReleased hChained hwApproved hRebuilt hwListed hwClean hwFresh hb;rw[hb];refine aK ?_;refine T0 (hK _ _ _ ?_);clear hK K;refine aC fun K hK=>Rg ?_;iterate 3 refine S0 ?_
 refine T2 (hK _ _ _ ?_);clear hK K;refine aF (RT Tryz.results128 ?_);rw[hno];exact bT [] rq0.cv (.bool false) (rdr ls a) rfl rfl (by simp[HV.close,HV.closeL,rdr,CV.denil,CV.denilL,aS,HV.norm,HV.toC,HV.toCL]) (by simp) ⟨rfl,rfl,rfl⟩
theorem aO6 (ls:List (List aH))(a:Nat)(ha:ls.length<2^40):tA Tryz.prog 129 94 (rdr ls a) [] (fun u x v'=>u=((jJ ls a).getD nd0).cv∧x= .bool (jJ ls a).isSome∧v'=rdr ls (if(jJ ls a).isSome then a+1 else a)):=by
 refine bS Tryz.func129 rfl (by kernel_rfl) (cR _ _ _) (Nat.le_of_ble_eq_true rfl) ?_;refine R0 ?_;refine R0 ?_;refine aC fun K hK=>?_;refine aL ?_;refine aC fun K hK=>Rg ?_;refine S0 ?_;refine HS rfl rfl fun K' hK'=>T5 ?_;refine bI (args:=[_,_]) (nO ls a oW ha) rfl (by simp) ⟨rfl,rfl,rfl,rfl⟩ ?_;rintro u v' ⟨rfl,rfl⟩;refine AX (hK' _ _ ?_);clear hK' K';refine S0 ?_;refine T2 (hK _ _ _ ?_);clear hK K;refine aJ (b:=isV ls a oW 1) rfl (fun hb=>?_) (fun hb=>?_)
 ·
  have hreq:=bQ0 hb;rw[hb];refine aC fun K hK=>Rg ?_;iterate 3 refine S0 ?_
  refine T2 (hK _ _ _ ?_);clear hK K;refine aF (RT Tryz.results129 ?_);rw[hreq];exact bT [] (Nd.cv ⟨2,0,0,rq0⟩) (.bool true) (rdr ls (a+1)) rfl rfl (by simp[HV.close,HV.closeL,rdr,CV.denil,CV.denilL,aS,HV.norm,HV.toC,HV.toCL]) (by simp) ⟨rfl,rfl,rfl⟩
 have hAll:isV ls a oW 1=false:=hb;rw[hb];simp only[Bool.false_eq_true,if_false];clear hb;refine aC fun K hK=>Rg ?_;refine S0 ?_;refine HS rfl rfl fun K' hK'=>T5 ?_;refine bI (args:=[_,_]) (nO ls a oX ha) rfl (by simp) ⟨rfl,rfl,rfl,rfl⟩ ?_;rintro u v' ⟨rfl,rfl⟩;refine AX (hK' _ _ ?_);clear hK' K';refine S0 ?_;refine T2 (hK _ _ _ ?_);clear hK K;refine aJ (b:=isV ls a oX 1) rfl (fun hb=>?_) (fun hb=>?_)
 ·
  have hreq:=bQ1 hb;rw[hb];refine aC fun K hK=>Rg ?_;iterate 3 refine S0 ?_
  refine T2 (hK _ _ _ ?_);clear hK K;refine aF (RT Tryz.results129 ?_);rw[hreq];exact bT [] (Nd.cv ⟨3,0,0,rq0⟩) (.bool true) (rdr ls (a+1)) rfl rfl (by simp[HV.close,HV.closeL,rdr,CV.denil,CV.denilL,aS,HV.norm,HV.toC,HV.toCL]) (by simp) ⟨rfl,rfl,rfl⟩
 have hAny:isV ls a oX 1=false:=hb;rw[hb];simp only[Bool.false_eq_true,if_false];clear hb;refine aC fun K hK=>bH (by kernel_rfl) ?_;simp only[sR,simprocAttr];refine SG0 ?_;refine bY (g:=none) rfl rfl fun K' hK'=>?_;simp only[sN,↓hopH.eq_def,sH,↓sP,sA,tyS,simprocAttr];refine AX (hK' _ _ ?_);clear hK' K';refine bK (g:=none) rfl rfl fun K' hK'=>T5 ?_;refine gW dE ha rfl rfl rfl (by decide) (by simp) ⟨rfl,rfl,rfl,rfl⟩ ?_;refine AX (hK' _ _ ?_);clear hK' K';refine SG0 ?_;refine T2 (hK _ _ _ ?_);clear hK K;refine aJ (b:=(fS ls a dE).isSome) rfl (fun hb=>?_) (fun hb=>?_)
 ·
  obtain⟨n,hn⟩:=Option.isSome_iff_exists.1 hb;have hreq:=bY3 hn;simp only[hn,Option.isSome_some,if_true,Option.getD_some];refine aC fun K hK=>Rg ?_;iterate 4 refine S0 ?_
  refine T2 (hK _ _ _ ?_);clear hK K;refine aF (RT Tryz.results129 ?_);rw[hreq];exact bT [] (Nd.cv ⟨4,n,0,rq0⟩) (.bool true) (rdr ls (a+1)) rfl rfl (by simp[HV.close,HV.closeL,rdr,CV.denil,CV.denilL,aS,HV.norm,HV.toC,HV.toCL]) (by simp) ⟨rfl,rfl,rfl⟩
 have hAt:fS ls a dE=none:=by simpa using hb
 have hno:=bF7 hAll hAny hAt;simp only[hAt,Option.isSome_none,Bool.false_eq_true,if_false,Option.getD_none];refine aK ?_;refine T0 (hK _ _ _ ?_);clear hK K;refine aC fun K hK=>Rg ?_;iterate 3 refine S0 ?_
 refine T2 (hK _ _ _ ?_);clear hK K;refine aF (RT Tryz.results129 ?_);rw[hno];exact bT [] nd0.cv (.bool false) (rdr ls a) rfl rfl (by simp[HV.close,HV.closeL,rdr,CV.denil,CV.denilL,aS,HV.norm,HV.toC,HV.toCL]) (by simp) ⟨rfl,rfl,rfl⟩
def cB8 (ls:List (List aH))(a n:Nat)(T:List Nd)(X:Option (List Nd)×List (List aH))(r:HV)(os':List HO):Prop:=
 ∃T':List Nd,r= .tup [.own 1 T'.length,.c (.bool X.1.isSome)]∧os'=[.box 94 (.c (rdr ls (ls.length-X.2.length))),.row 40 7 (T'.map Nd.cv)]∧(∀t,X.1=some t→T'=T++t)∧0<T'.length∧T'.length+X.2.length≤n+(ls.length-a)
theorem cJ4 (ls:List (List aH))(a:Nat)(T:List Nd):lst [.box 94 (.c (rdr ls a)),.row 40 7 (T.map Nd.cv)]=fob [(0,.box 94 (.c (rdr ls a))),(1,.row 40 7 (T.map Nd.cv))]:=by
 funext i
 match i with
 |0=>rfl
 |1=>rfl
 |i+2=>simp[lst,fob,upd]
theorem bG4 (n:Nat)(ob:Ob)(e:TypeId)(sz:Nat)(v:CV)(L:List CV)(t:TypeId):jN (sub [0,1] n) ob 0 [.box t (.c v),.row e sz L]=upd (upd ob 0 (some (.box t (.c v)))) 1 (some (.row e sz L)):=rfl
theorem aO7 (n m:Nat)(v:CV):HV.ren (sub [0,1] n) (.tup [.own 1 m,.c v])= .tup [.own 1 m,.c v]:=rfl
theorem innR_c {w:List aH}{n:Nd}(h:jH w=some n):n.c=0:=by
 unfold jH at h;split at h
 · cases h;rfl
 split at h
 · cases h;rfl
 split at h
 ·
  cases hn:bL (wd w 1)with
  |none=>rw[hn]at h;cases h
  |some x=>rw[hn]at h;cases h;rfl
 cases h
theorem oF {b n m:Nat}{T T':List Nd}{L:List CV}{bo:Bool}{X:Option (List Nd)×List (List aH)}(h0:ob 0=some (.box 94 (.c (rdr ls b))))(h1:ob 1=some (.row 40 7 L))(hm:m=T'.length)(hL:L=T'.map Nd.cv)(hb:b=ls.length-X.2.length)(hbo:bo=X.1.isSome)
  (hT: ∀t,X.1=some t→T'=T++t) (hp:0<T'.length) (hl:T'.length+X.2.length≤n+(ls.length-a)):
  lX 2 (.tup [.own 1 m,.c (.bool bo)]) ob (fun r ob'=> ∃os',ob'=lst os'∧(2≤os'.length∧os'.length≤2+4)∧cB8 ls a n T X r os'):=by
 subst hb hbo hm hL;exact dZ [] [] (.tup [.own 1 T'.length,.c (.bool X.1.isSome)]) [.box 94 (.c (rdr ls (ls.length-X.2.length))),.row 40 7 (T'.map Nd.cv)] rfl (by simp[HV.men,HV.menL]) ⟨⟨by simp[HO.men,HV.men],by simp,_,h0,by simp[HO.close,HV.close,HO.ren,HV.ren,HV.norm,fN,HV.toC,rdr,CV.denil,CV.denilL,aS]⟩,⟨by simp[HO.men],by simp,_,h1,rfl⟩,trivial⟩ rfl List.nodup_nil (by simp) (by simp) ⟨T',rfl,rfl,hT,hp,hl⟩
theorem bZ9 (f:Nat): ∀(ls:List (List aH)) (a:Nat) (T:List Nd),a≤ls.length→2*(ls.length-a)+1≤f→0<T.length→ls.length<2^39→T.length+(ls.length-a)<2^39→
  HGe Tryz.prog 108 [.ptr 0 0,.own 1 T.length] [.box 94 (.c (rdr ls a)),.row 40 7 (T.map Nd.cv)] (cB8 ls a T.length T (rdN f (ls.drop a))):=by
 induction f using Nat.strongRecOn with
 |ind f ih=>?_
 intro ls a T hal hfu hT0 hls hTl;refine bS (args:=[.ptr 0 0,.own 1 T.length]) Tryz.func108 rfl (by kernel_rfl) (fA rfl (by simp[eC,HO.men,HV.men,HV.menL]) (by simp[HV.menL,HV.men])) (Nat.le_of_ble_eq_true rfl) ?_;show Hw _ _ 2 _ _ _ (lst _) 2;rw[cJ4];refine R0 ?_;refine aC fun K hK=>?_;refine aC fun K hK=>Rg ?_;refine S0 ?_;refine HS rfl rfl fun K' hK'=>T5 ?_;refine dS (args:=[]) (aO5 ls a (by omega)) rfl (by simp) ⟨rfl,rfl,rfl,rfl⟩ ?_;rintro u x v' ⟨rfl,rfl,rfl⟩;refine AX (hK' _ _ ?_);clear hK' K';iterate 6 refine S0 ?_
 refine T2 (hK _ _ _ ?_);clear hK K;refine R0 ?_;refine aJ (b:=(jQ ls a).isSome) rfl (fun hb=>?_) (fun hb=>?_)
 ·
  obtain⟨q,hq⟩:=Option.isSome_iff_exists.1 hb;obtain⟨hl,hq2⟩: ∃h:a<ls.length,fC ls[a]=some q:=by
   unfold jQ at hq;split at hq
   · exact⟨by assumption,hq⟩
   cases hq
  obtain⟨g,rfl⟩: ∃g,f=g+1:=⟨f-1,by omega⟩;rw[List.drop_eq_getElem_cons hl,nK hq2];simp only[hq,Option.isSome_some,if_true,Option.getD_some];refine aC fun K hK=>Rg ?_;iterate 7 refine S0 ?_
  refine T2 (hK _ _ _ ?_);clear hK K;refine aF (RT Tryz.results108 ?_);exact oF (T':=T++[⟨1,0,0,q⟩]) rfl rfl (by simp) (by simp) (by simp only[List.length_drop];omega) rfl (fun t h=>by cases h;rfl) (by simp) (by simp only[List.length_append,List.length_cons,List.length_nil,List.length_drop];omega)
 have hno:jQ ls a=none:=by simpa using hb
 simp only[hno,Option.isSome_none,Bool.false_eq_true,if_false,Option.getD_none];clear hb;refine aK ?_;refine T0 (hK _ _ _ ?_);clear hK K;refine aC fun K hK=>Rg ?_;refine S0 ?_;refine HS rfl rfl fun K' hK'=>T5 ?_;refine dS (args:=[]) (aO6 ls a (by omega)) rfl (by simp) ⟨rfl,rfl,rfl,rfl⟩ ?_;rintro u x v' ⟨rfl,rfl,rfl⟩;refine AX (hK' _ _ ?_);clear hK' K';iterate 6 refine S0 ?_
 refine T2 (hK _ _ _ ?_);clear hK K;refine aC fun K hK=>?_;refine R0 ?_;refine aJ (b:=!(jJ ls a).isSome) rfl (fun hb=>?_) (fun hb=>?_)
 ·
  have hi:jJ ls a=none:=by simpa using hb
  have hX:rdN f (ls.drop a)=(none,ls.drop a):=by
   obtain⟨g,rfl⟩: ∃g,f=g+1:=⟨f-1,by omega⟩;rcases Nat.lt_or_ge a ls.length with hl|hl
   · rw[fV hl]at hno;unfold jJ at hi;rw[dif_pos hl]at hi;rw[List.drop_eq_getElem_cons hl,nL hno hi]
   rw[List.drop_eq_nil_of_le hl];rfl
  rw[hX];simp only[hi,Option.isSome_none,Bool.false_eq_true,if_false];refine R0 ?_;refine aF (RT Tryz.results108 ?_);exact oF (T':=T) rfl rfl rfl rfl (by simp only[List.length_drop];omega) rfl (fun t h=>by cases h) hT0 (by simp only[List.length_drop];omega)
 refine aK ?_;refine T0 (hK _ _ _ ?_);clear hK K;obtain⟨nd,hi⟩: ∃nd,jJ ls a=some nd:=by
  cases h:jJ ls a with
  |none=>rw[h]at hb;simp at hb
  |some nd=>exact⟨nd,rfl⟩
 obtain⟨hl,hi2⟩: ∃h:a<ls.length,jH ls[a]=some nd:=by
  unfold jJ at hi;split at hi
  · exact⟨by assumption,hi⟩
  cases hi
 rw[fV hl]at hno;have hc0:=innR_c hi2;have hnd:({k:=nd.k,n:=nd.n,c:=0,q:=nd.q}:Nd)=nd:=by cases nd;simp only at hc0;rw[hc0]
 have hst:=KdSt.init hl hfu hno hi2;simp only[hi,Option.isSome_some,if_true,Option.getD_some];clear hb;refine R0 ?_;refine aC fun K hK=>Rg ?_;iterate 5 refine S0 ?_
 refine T2 (hK _ _ _ ?_);clear hK K;refine aC fun K hK=>?_;refine aL ?_;refine bF (α:={y:Nat×List Nd×Nat×Nat//KdSt f ls a nd y.1 y.2.1 y.2.2.1 y.2.2.2}) (fun y=>(fin [(0,.ptr 0 0),(1,.own 1 (T.length+1+y.1.2.1.length)),(10,.c (.int .i64 T.length))],fob [(0,.box 94 (.c (rdr ls y.1.2.2.2))),(1,.row 40 7 ((T++{nd with c:=(y.1.2.2.1:Int)}::y.1.2.1).map Nd.cv))])) 2000 (fun y=>y.1.1) ⟨(f-1,[],0,a+1),hst⟩ (aN (by omega) (by simp[aY,fin_at,finA_at,upd_at,HV.men,HV.menL,HV.norm,HV.toC,HV.toCL,hnd]) (by simp[aW,fob_at,upd_at,none0_at,bW,HO.men,HV.men,HV.menL,HV.norm,HV.toC,HV.toCL,hnd])) ?_;rintro⟨⟨g,ts,k,p⟩,hΦ⟩;simp only at hΦ;refine aC fun K hK=>?_;refine aC fun K hK=>Rg ?_;refine S0 ?_;refine HS rfl rfl fun K' hK'=>T5 ?_;refine bI (args:=[_,_]) (nO ls p wEnd (by omega)) rfl (by simp) ⟨rfl,rfl,rfl,rfl⟩ ?_;rintro u v' ⟨rfl,rfl⟩;refine AX (hK' _ _ ?_);clear hK' K';refine S0 ?_;refine T2 (hK _ _ _ ?_);clear hK K;refine aJ (b:=!isV ls p wEnd 1) rfl (fun hb=>?_) (fun hb=>?_)
 ·
  have hev:isV ls p wEnd 1=false:=by simpa using hb
  obtain⟨Tq,hTq⟩: ∃Tq,Tq=T++{nd with c:=(k:Int)}::ts:=⟨_,rfl⟩;have hTql:T.length+1+ts.length=Tq.length:=by rw[hTq];simp;omega
  have hp1:=hΦ.le;have hp2:=hΦ.fuel;have hp3:=hΦ.lt;have hp4:=hΦ.len;have hp5:=hΦ.kids;rw[←hTq,hTql,hev];simp only[Bool.false_eq_true,if_false];clear hb;refine aK ?_;refine T0 (hK _ _ _ ?_);clear hK K;refine aL ?_;refine aC fun K hK=>?_;refine aC fun K hK=>Rg ?_;iterate 2 refine S0 ?_
  refine HS rfl rfl fun K' hK'=>T5 ?_;refine fT [0,1] (ih (g-1) (by omega) ls p Tq hp1 (by omega) (by omega) hls (by omega)) rfl ⟨rfl,rfl,trivial⟩ (by simp) (by simp) ⟨rfl,rfl,rfl,rfl⟩ (by simp[eC,HO.men,HV.men,HV.menL]) (by simp[HV.menL,HV.men]) ?_;rintro r os' ⟨T',rfl,rfl,h1,h2,h3⟩;rw[bG4,aO7];refine AX (hK' _ _ ?_);clear hK' K';iterate 5 refine S0 ?_
  refine T2 (hK _ _ _ ?_);clear hK K;refine R0 ?_;refine aJ (b:=!(rdN (g-1) (ls.drop p)).1.isSome) rfl (fun hb=>?_) (fun hb=>?_)
  ·
   have hn2:(rdN (g-1) (ls.drop p)).1=none:=by simpa using hb
   rw[hΦ.no hev hn2];refine R0 ?_;refine aF (RT Tryz.results108 ?_);exact oF (T':=T') rfl rfl rfl rfl rfl rfl (fun t h=>by cases h) h2 (by simp only;omega)
  obtain⟨t,ht⟩: ∃t,(rdN (g-1) (ls.drop p)).1=some t:=by
   cases h:(rdN (g-1) (ls.drop p)).1 with
   |none=>rw[h]at hb;simp at hb
   |some t=>exact⟨t,rfl⟩
  have hst2:=hΦ.some_ hev ht;have hT':=h1 t ht;have hlt:T.length<T'.length:=by rw[hT',List.length_append];omega
  have hge:T'[T.length]={nd with c:=(k:Int)}:=by simp[hT',hTq]
  have hw:IntKind.i64.wrap ((k:Int)+1)=((k+1:Nat):Int):=IntWalk.i64_in _ (by omega);have hmne:(T'.map Nd.cv=[])=False:=by simp;intro h;rw[h]at hlt;cases hlt
  clear hb;refine aK ?_;refine T0 (hK _ _ _ ?_);clear hK K;refine Rg ?_;have F:=aI @Int.natCast_nonneg (aI @Int.ofNat_lt (aI hlt (aI (nM hlt) (aI hge (aI hw (aI hmne (aI not_false_eq_true @List.length_map.{0,0})))))));iterate 9 refine SF ?_
  refine T4 ?_;refine⟨⟨(g-1,ts++t,k+1,ls.length-(rdN (g-1) (ls.drop p)).2.length),hst2⟩,?_,?_⟩
  ·
   have hrow:(List.map Nd.cv T').set T.length (Nd.cv {nd with c:=((k+1:Nat):Int)})=List.map Nd.cv (T++{nd with c:=((k+1:Nat):Int)}::(ts++t)):=by
    rw[hT',hTq,←List.map_set];simp[List.set_append]
   have hlen:T'.length=T.length+1+(ts++t).length:=by rw[hT',hTq];simp;omega
   simp only[];rw[←hrow,←hlen];exact fF
  show g-1<g;omega
 have hev:isV ls p wEnd 1=true:=by simpa using hb
 obtain⟨hp,hX⟩:=hΦ.end_ hev;have hp4:=hΦ.len;rw[hev];simp only[if_true];refine bA (T3 ?_);clear hK K;refine AX (hK _ _ _ ?_);clear hK K;refine R0 ?_;refine aF (RT Tryz.results108 ?_);rw[hX];exact oF (T':=T++{nd with c:=(k:Int)}::ts) rfl rfl (by simp;omega) rfl (by simp only[List.length_drop];omega) rfl (fun t h=>by cases h;rfl) (by simp;omega) (by simp only[List.length_append,List.length_cons,List.length_drop];omega)
theorem bG5 (N n:Nat)(ob:Ob)(e:TypeId)(sz:Nat)(v:CV)(L:List CV)(t:TypeId):jN (sub [0,N] n) ob 0 [.box t (.c v),.row e sz L]=upd (upd ob 0 (some (.box t (.c v)))) N (some (.row e sz L)):=rfl
theorem aA2 (N n m:Nat)(v:CV):HV.ren (sub [0,N] n) (.tup [.own 1 m,.c v])= .tup [.own N m,.c v]:=rfl
theorem bR9 (f:Nat)(ls:List (List aH))(a:Nat)(hal:a≤ls.length)(hfu:2*(ls.length-a)+1≤f)(hls:ls.length<2^39):
  tA Tryz.prog 108 94 (rdr ls a) [.nils] (fun u x v'=> ∃T':List Nd,u= .slc (T'.map Nd.cv)∧x= .bool (rdN f (ls.drop a)).1.isSome∧v'=rdr ls (ls.length-(rdN f (ls.drop a)).2.length)∧ ∀t,(rdN f (ls.drop a)).1=some t→T'=t):=by
 refine bS Tryz.func108 rfl (by kernel_rfl) (cR _ _ _) (Nat.le_of_ble_eq_true rfl) ?_;refine R0 ?_;refine aC fun K hK=>?_;refine aC fun K hK=>Rg ?_;refine S0 ?_;refine HS rfl rfl fun K' hK'=>T5 ?_;refine dS (args:=[]) (aO5 ls a (by omega)) rfl (by simp) ⟨rfl,rfl,rfl,rfl⟩ ?_;rintro u x v' ⟨rfl,rfl,rfl⟩;refine AX (hK' _ _ ?_);clear hK' K';iterate 6 refine S0 ?_
 refine T2 (hK _ _ _ ?_);clear hK K;refine R0 ?_;refine aJ (b:=(jQ ls a).isSome) rfl (fun hb=>?_) (fun hb=>?_)
 ·
  obtain⟨q,hq⟩:=Option.isSome_iff_exists.1 hb;obtain⟨hl,hq2⟩: ∃h:a<ls.length,fC ls[a]=some q:=by
   unfold jQ at hq;split at hq
   · exact⟨by assumption,hq⟩
   cases hq
  obtain⟨g,rfl⟩: ∃g,f=g+1:=⟨f-1,by omega⟩;rw[List.drop_eq_getElem_cons hl,nK hq2];simp only[hq,Option.isSome_some,if_true,Option.getD_some];refine aC fun K hK=>Rg ?_;iterate 7 refine S0 ?_
  refine T2 (hK _ _ _ ?_);clear hK K;refine aF (RT Tryz.results108 ?_);exact bT [61] (.slc [Nd.cv ⟨1,0,0,q⟩]) (.bool true) (rdr ls (a+1)) (by simp[HV.close,HV.closeL,HO.close,fob_at,upd_at,CV.denil,CV.denilL,denilL_Nd,HV.norm,HV.toC,HV.toCL]) rfl (by simp[HV.close,HV.closeL,rdr,CV.denil,CV.denilL,aS,HV.norm,HV.toC,HV.toCL]) (by simp) ⟨[⟨1,0,0,q⟩],rfl,rfl,by simp only[List.length_drop];congr 1;omega,fun t h=>by cases h;rfl⟩
 have hno:jQ ls a=none:=by simpa using hb
 simp only[hno,Option.isSome_none,Bool.false_eq_true,if_false,Option.getD_none];clear hb;refine aK ?_;refine T0 (hK _ _ _ ?_);clear hK K;refine aC fun K hK=>Rg ?_;refine S0 ?_;refine HS rfl rfl fun K' hK'=>T5 ?_;refine dS (args:=[]) (aO6 ls a (by omega)) rfl (by simp) ⟨rfl,rfl,rfl,rfl⟩ ?_;rintro u x v' ⟨rfl,rfl,rfl⟩;refine AX (hK' _ _ ?_);clear hK' K';iterate 6 refine S0 ?_
 refine T2 (hK _ _ _ ?_);clear hK K;refine aC fun K hK=>?_;refine R0 ?_;refine aJ (b:=!(jJ ls a).isSome) rfl (fun hb=>?_) (fun hb=>?_)
 ·
  have hi:jJ ls a=none:=by simpa using hb
  have hX:rdN f (ls.drop a)=(none,ls.drop a):=by
   obtain⟨g,rfl⟩: ∃g,f=g+1:=⟨f-1,by omega⟩;rcases Nat.lt_or_ge a ls.length with hl|hl
   · rw[fV hl]at hno;unfold jJ at hi;rw[dif_pos hl]at hi;rw[List.drop_eq_getElem_cons hl,nL hno hi]
   rw[List.drop_eq_nil_of_le hl];rfl
  rw[hX];simp only[hi,Option.isSome_none,Bool.false_eq_true,if_false];refine R0 ?_;refine aF (RT Tryz.results108 ?_);exact bT [] (.slc []) (.bool false) (rdr ls a) (by simp[HV.close,HV.closeL,HO.close,fob_at,upd_at,CV.denil,CV.denilL,denilL_Nd,HV.norm,HV.toC,HV.toCL]) rfl (by simp[HV.close,HV.closeL,rdr,CV.denil,CV.denilL,aS,HV.norm,HV.toC,HV.toCL]) (by simp) (by refine⟨[],rfl,rfl,?_⟩;first|exact(by simp only[List.length_drop];congr 1;omega)|exact⟨by simp only[List.length_drop];congr 1;omega,fun t h=>by cases h⟩)
 refine aK ?_;refine T0 (hK _ _ _ ?_);clear hK K;obtain⟨nd,hi⟩: ∃nd,jJ ls a=some nd:=by
  cases h:jJ ls a with
  |none=>rw[h]at hb;simp at hb
  |some nd=>exact⟨nd,rfl⟩
 obtain⟨hl,hi2⟩: ∃h:a<ls.length,jH ls[a]=some nd:=by
  unfold jJ at hi;split at hi
  · exact⟨by assumption,hi⟩
  cases hi
 rw[fV hl]at hno;have hc0:=innR_c hi2;have hnd:({k:=nd.k,n:=nd.n,c:=0,q:=nd.q}:Nd)=nd:=by cases nd;simp only at hc0;rw[hc0]
 have hst:=KdSt.init hl hfu hno hi2;simp only[hi,Option.isSome_some,if_true,Option.getD_some];clear hb;refine R0 ?_;refine aC fun K hK=>Rg ?_;iterate 5 refine S0 ?_
 refine T2 (hK _ _ _ ?_);clear hK K;refine aC fun K hK=>?_;refine aL ?_;refine bF (α:={y:Nat×List Nd×Nat×Nat//KdSt f ls a nd y.1 y.2.1 y.2.2.1 y.2.2.2}) (fun y=>(fin [(0,.ptr 0 0),(1,.own 109 (1+y.1.2.1.length)),(10,.c (.int .i64 0))],fob [(0,.box 94 (.c (rdr ls y.1.2.2.2))),(109,.row 40 7 (({nd with c:=(y.1.2.2.1:Int)}::y.1.2.1).map Nd.cv))])) 2000 (fun y=>y.1.1) ⟨(f-1,[],0,a+1),hst⟩ (aN (by omega) (by simp[aY,fin_at,finA_at,upd_at,HV.men,HV.menL,HV.norm,HV.toC,HV.toCL,hnd]) (by simp[aW,fob_at,upd_at,none0_at,bW,HO.men,HV.men,HV.menL,HV.norm,HV.toC,HV.toCL,hnd])) ?_;rintro⟨⟨g,ts,k,p⟩,hΦ⟩;simp only at hΦ;refine aC fun K hK=>?_;refine aC fun K hK=>Rg ?_;refine S0 ?_;refine HS rfl rfl fun K' hK'=>T5 ?_;refine bI (args:=[_,_]) (nO ls p wEnd (by omega)) rfl (by simp) ⟨rfl,rfl,rfl,rfl⟩ ?_;rintro u v' ⟨rfl,rfl⟩;refine AX (hK' _ _ ?_);clear hK' K';refine S0 ?_;refine T2 (hK _ _ _ ?_);clear hK K;refine aJ (b:=!isV ls p wEnd 1) rfl (fun hb=>?_) (fun hb=>?_)
 ·
  have hev:isV ls p wEnd 1=false:=by simpa using hb
  obtain⟨Tq,hTq⟩: ∃Tq,Tq={nd with c:=(k:Int)}::ts:=⟨_,rfl⟩;have hTql:1+ts.length=Tq.length:=by rw[hTq];simp;omega
  have hp1:=hΦ.le;have hp2:=hΦ.fuel;have hp3:=hΦ.lt;have hp4:=hΦ.len;have hp5:=hΦ.kids;have hTm:Nd.cv {nd with c:=(k:Int)}::List.map Nd.cv ts=List.map Nd.cv Tq:=by rw[hTq];rfl
  rw[hTm,hTql,hev];simp only[Bool.false_eq_true,if_false];clear hb;refine aK ?_;refine T0 (hK _ _ _ ?_);clear hK K;refine aL ?_;refine aC fun K hK=>?_;refine aC fun K hK=>Rg ?_;iterate 2 refine S0 ?_
  refine HS rfl rfl fun K' hK'=>T5 ?_;refine fT [0,109] (bZ9 (g-1) ls p Tq hp1 (by omega) (by omega) hls (by omega)) rfl ⟨rfl,rfl,trivial⟩ (by simp) (by simp) ⟨rfl,rfl,rfl,rfl⟩ (by simp[eC,HO.men,HV.men,HV.menL]) (by simp[HV.menL,HV.men]) ?_;rintro r os' ⟨T',rfl,rfl,h1,h2,h3⟩;rw[bG5,aA2];refine AX (hK' _ _ ?_);clear hK' K';iterate 5 refine S0 ?_
  refine T2 (hK _ _ _ ?_);clear hK K;refine R0 ?_;refine aJ (b:=!(rdN (g-1) (ls.drop p)).1.isSome) rfl (fun hb=>?_) (fun hb=>?_)
  ·
   have hn2:(rdN (g-1) (ls.drop p)).1=none:=by simpa using hb
   rw[hΦ.no hev hn2];refine R0 ?_;refine aF (RT Tryz.results108 ?_);exact bT [109] (.slc (T'.map Nd.cv)) (.bool false) (rdr ls (ls.length-(rdN (g-1) (ls.drop p)).2.length)) (by simp[HV.close,HV.closeL,HO.close,fob_at,upd_at,CV.denil,CV.denilL,denilL_Nd,HV.norm,HV.toC,HV.toCL]) rfl (by simp[HV.close,HV.closeL,rdr,CV.denil,CV.denilL,aS,HV.norm,HV.toC,HV.toCL]) (by simp) (by refine⟨T',rfl,rfl,?_⟩;first|exact rfl|exact⟨rfl,fun t h=>by cases h⟩)
  obtain⟨t,ht⟩: ∃t,(rdN (g-1) (ls.drop p)).1=some t:=by
   cases h:(rdN (g-1) (ls.drop p)).1 with
   |none=>rw[h]at hb;simp at hb
   |some t=>exact⟨t,rfl⟩
  have hst2:=hΦ.some_ hev ht;have hT':=h1 t ht;have hlt:0<T'.length:=by rw[hT',List.length_append];omega
  have hge:T'[0]={nd with c:=(k:Int)}:=by simp[hT',hTq]
  have hw:IntKind.i64.wrap ((k:Int)+1)=((k+1:Nat):Int):=IntWalk.i64_in _ (by omega);have hmne:(T'.map Nd.cv=[])=False:=by simp;intro h;rw[h]at hlt;cases hlt
  clear hb;refine aK ?_;refine T0 (hK _ _ _ ?_);clear hK K;refine Rg ?_;have F:=aI @Int.natCast_nonneg (aI @Int.ofNat_lt (aI hlt (aI (nM hlt) (aI hge (aI hw (aI hmne (aI not_false_eq_true @List.length_map.{0,0})))))));iterate 9 refine SF ?_
  refine T4 ?_;refine⟨⟨(g-1,ts++t,k+1,ls.length-(rdN (g-1) (ls.drop p)).2.length),hst2⟩,?_,?_⟩
  ·
   have hrow:(List.map Nd.cv T').set 0 (Nd.cv {nd with c:=((k+1:Nat):Int)})=List.map Nd.cv ({nd with c:=((k+1:Nat):Int)}::(ts++t)):=by
    rw[hT',hTq,←List.map_set];simp
   have hlen:T'.length=1+(ts++t).length:=by rw[hT',hTq];simp;omega
   simp only[];rw[←hrow,←hlen];exact fF
  show g-1<g;omega
 have hev:isV ls p wEnd 1=true:=by simpa using hb
 obtain⟨hp,hX⟩:=hΦ.end_ hev;have hp4:=hΦ.len;rw[hev];simp only[if_true];refine bA (T3 ?_);clear hK K;refine AX (hK _ _ _ ?_);clear hK K;refine R0 ?_;refine aF (RT Tryz.results108 ?_);rw[hX];exact bT [109] (.slc (({nd with c:=(k:Int)}::ts).map Nd.cv)) (.bool true) (rdr ls (p+1)) (by simp[show 1+ts.length=ts.length+1 from by omega,HV.close,HV.closeL,HO.close,fob_at,upd_at,CV.denil,CV.denilL,denilL_Nd,HV.norm,HV.toC,HV.toCL]) rfl (by simp[HV.close,HV.closeL,rdr,CV.denil,CV.denilL,aS,HV.norm,HV.toC,HV.toCL]) (by simp) ⟨_,rfl,rfl,by simp only[List.length_drop];congr 1;omega,fun t h=>by cases h;rfl⟩
end Go.Proofs.YtlldglbooaefhaaGreatDoor
