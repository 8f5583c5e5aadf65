/- Part of a proof: walks of functions of the program, by contracts, and the rules they use. By an AI agent. -/
import Derived.Test.YtlldglbooaefhaaGreatDoorHzU1
import Derived.Test.YtlldglbooaefhaaGreatDoorHzTm
import Derived.Test.YtlldglbooaefhaaGreatDoorHlTlaw
import Derived.Test.YtlldglbooaefhaaGreatDoorHzT9
set_option linter.unusedSimpArgs false
set_option linter.unusedVariables false
set_option linter.defProp false
namespace Go.Proofs.YtlldglbooaefhaaGreatDoor
open Go Go.Hl Go.Pl
set_option maxRecDepth 10000
set_option maxHeartbeats 16000000
theorem nG (ls:List (List aG))(a:Nat)(w:aG)(ha:ls.length<2^40):aY4 Tryz.prog 130 94 (rdr ls a) [.str w,.slc []] (fun u v'=>u= .bool (isV ls a w 1)∧v'=rdr ls (if isV ls a w 1 then a+1 else a)):=by
 refine bR Tryz.func130 rfl (by kernel_rfl) (cZ _ _ _) (Nat.le_of_ble_eq_true rfl) ?_;refine R0 ?_;refine aC fun K hK=>?_;refine aC fun K hK=>Rg ?_;iterate 5 refine S0 ?_
 refine HS rfl rfl fun K' hK'=>T5 ?_;refine bV (args:=[_,_]) (zK ls a 1 w (by omega)) rfl (by simp) ⟨rfl,rfl,rfl,rfl⟩ ?_;rintro u v' ⟨rfl,rfl⟩;refine AX (hK' _ _ ?_);clear hK' K';refine S0 ?_;refine T2 (hK _ _ _ ?_);clear hK K;refine aJ (b:=!isV ls a w 1) rfl (fun hb=>?_) (fun hb=>?_)
 ·
  refine R0 ?_;refine aF (RT Tryz.results130 ?_);have hv:isV ls a w 1=false:=by simpa using hb
  refine fJ [] (.bool false) (rdr ls a) rfl rfl (by simp[HV.close,HV.closeL,rdr,CV.denil,CV.denilL,aQ,HV.norm,HV.toC,HV.toCL]) (by simp) ⟨by rw[hv],by rw[hv];rfl⟩
 refine aK ?_;refine T0 (hK _ _ _ ?_);clear hK K;refine aC fun K hK=>?_;have hv:isV ls a w 1=true:=by simpa using hb
 obtain⟨hl,hl1,hl2⟩:=fR hv;rw[hv];clear hb;refine R0 ?_;refine aL ?_;refine bD (α:={i:Nat//i=0}) (fun i=>(fin [(0,.ptr 0 0),(18,.c (.slc [])),(19,.c (.int .i64 0)),(20,.c (.int .i64 0))],fob [(0,.box 94 (.c (rdr ls a)))])) 100 (fun i=>0) ⟨0,rfl⟩ (fF) ?_;rintro⟨i,hi⟩;refine R0 ?_;refine aC fun K hK=>?_;refine CF rfl ?_;refine bA (T3 ?_);clear hK K;refine AX (hK _ _ _ ?_);clear hK K;have hw:IntKind.i64.wrap ((a:Int)+1)=((a+1:Nat):Int):=IntWalk.i64_in _ (by omega);refine aC fun K hK=>Rg ?_;iterate 8 refine S0 ?_ (e:=fun _ h_=>by simp only[sH,↓sP,sA,tyS,simprocAttr,rdr,hw];exact AX h_)
 refine T2 (hK _ _ _ ?_);clear hK K;refine R0 ?_;refine aF (RT Tryz.results130 ?_);refine fJ [] (.bool true) (rdr ls (a+1)) rfl rfl (by simp[HV.close,HV.closeL,rdr,CV.denil,CV.denilL,aQ,HV.norm,HV.toC,HV.toCL]) (by simp) ⟨by rw[hv],by rw[hv];rfl⟩
theorem cG8 (ls:List (List aG))(a:Nat)(x:Int):lst [.box 94 (.c (rdr ls a)),.hrow 176 1 [.ptr 2 0],.box 2 (.c (.int .i64 x))]=fob [(0,.box 94 (.c (rdr ls a))),(1,.hrow 176 1 [.ptr 2 0]),(2,.box 2 (.c (.int .i64 x)))]:=by
 funext i
 match i with
 |0=>rfl
 |1=>rfl
 |2=>rfl
 |i+3=>simp[lst,fob,upd]
theorem bN9 (ls:List (List aG))(a:Nat)(w:aG)(x:Int)(ha:ls.length<2^40):
  HGe Tryz.prog 130 [.ptr 0 0,.c (.str w),.own 1 1] [.box 94 (.c (rdr ls a)),.hrow 176 1 [.ptr 2 0],.box 2 (.c (.int .i64 x))]
   (fun r os'=>r= .c (.bool (fP ls a w).isSome)∧os'=[.box 94 (.c (rdr ls (if(fP ls a w).isSome then a+1 else a))),.hrow 176 1 [.ptr 2 0],.box 2 (.c (.int .i64 ((fP ls a w).getD x)))]):=by
 refine bR (args:=[.ptr 0 0,.c (.str w),.own 1 1]) Tryz.func130 rfl (by kernel_rfl) (eV rfl (by simp[eE,HO.men,HV.men,HV.menL]) (by simp[HV.menL,HV.men])) (Nat.le_of_ble_eq_true rfl) ?_;show Hw _ _ 3 _ _ _ (lst _) 3;rw[cG8];refine R0 ?_;refine aC fun K hK=>?_;refine aC fun K hK=>bE (by kernel_rfl) ?_;simp only[sR,simprocAttr];iterate 3 refine SG0 ?_
 refine cA (g:=none) rfl rfl fun K' hK'=>?_;simp only[sN,↓hopH.eq_def,sH,↓sP,sA,tyS,simprocAttr];refine AX (hK' _ _ ?_);clear hK' K';refine SG0 ?_;refine bJ (g:=none) rfl rfl fun K' hK'=>T5 ?_;refine bV (args:=[_,_]) (zK ls a 2 w (by omega)) rfl (by simp) ⟨rfl,rfl,rfl,rfl⟩ ?_;rintro u v' ⟨rfl,rfl⟩;refine AX (hK' _ _ ?_);clear hK' K';refine SG0 ?_;refine T2 (hK _ _ _ ?_);clear hK K;refine aJ (b:=!isV ls a w 2) rfl (fun hb=>?_) (fun hb=>?_)
 ·
  refine R0 ?_;refine aF (RT Tryz.results130 ?_);have hv:isV ls a w 2=false:=by simpa using hb
  rw[bV6 hv];exact eA [] [] (.c (.bool false)) [.box 94 (.c (rdr ls a)),.hrow 176 1 [.ptr 2 0],.box 2 (.c (.int .i64 x))] rfl (by simp[HV.men]) (⟨⟨by simp[HO.men,HV.men],by simp,_,rfl,by simp[HO.close,HV.close,HV.closeL,HO.ren,HV.ren,HV.renL,tau,CV.denil,HV.norm,fL,upd_at,fob_at,HV.toC,HV.toCL,rdr,CV.denilL,aQ]⟩,⟨by simp[HO.men,HV.men,HV.menL],by simp,_,rfl,by simp[HO.close,HV.close,HV.closeL,HO.ren,HV.ren,HV.renL,tau,CV.denil,HV.norm,fL,upd_at,fob_at,HV.toC,HV.toCL]⟩,⟨by simp[HO.men,HV.men],by simp,_,rfl,by simp[HO.close,HV.close,HV.closeL,HO.ren,HV.ren,HV.renL,tau,CV.denil,HV.norm,fL,upd_at,fob_at,HV.toC,HV.toCL]⟩,trivial⟩) rfl List.nodup_nil (by simp) (by simp) ⟨rfl,rfl⟩
 refine aK ?_;refine T0 (hK _ _ _ ?_);clear hK K;refine aC fun K hK=>?_;have hv:isV ls a w 2=true:=by simpa using hb
 obtain⟨hl,hl1,hl2⟩:=fR hv;have hnum:=aD1 hv hl;have hw:IntKind.i64.wrap ((a:Int)+1)=((a+1:Nat):Int):=IntWalk.i64_in _ (by omega);clear hb;refine aC fun K hK=>bE (by kernel_rfl) ?_;simp only[sR,simprocAttr];refine SG0 ?_;refine cA (g:=none) rfl rfl fun K' hK'=>?_;simp only[sN,↓hopH.eq_def,sH,↓sP,sA,tyS,simprocAttr];refine AX (hK' _ _ ?_);clear hK' K';refine SG0 ?_;refine T2 (hK _ _ _ ?_);clear hK K;refine aL ?_;refine bD (α:={y:Nat×Int//(y.1=0∧y.2=x)∨(y.1=1∧bH (wd ls[a] 1)=some y.2)}) (fun y=>(fin [(0,.ptr 0 0),(18,.own 1 1),(19,.c (.int .i64 1)),(20,.c (.int .i64 y.1.1))],fob [(0,.box 94 (.c (rdr ls a))),(1,.hrow 176 1 [.ptr 2 0]),(2,.box 2 (.c (.int .i64 y.1.2)))])) 100 (fun y=>1-y.1.1) ⟨(0,x),.inl ⟨rfl,rfl⟩⟩ (fF) ?_;rintro⟨⟨i,y⟩,hiy⟩;simp only at hiy;refine R0 ?_;refine aC fun K hK=>?_;refine aJ (b:=decide ((i:Int)<1)) rfl (fun hb=>?_) (fun hb=>?_)
 ·
  have hi0:i=0:=by simp at hb;omega
  subst hi0;obtain rfl:y=x:=by rcases hiy with h|h;exact h.2;exact absurd h.1 (by decide)
  clear hb;refine aK ?_;refine T0 (hK _ _ _ ?_);clear hK K;refine aC fun K hK=>?_;refine aL ?_;refine aC fun K hK=>bE (by kernel_rfl) ?_;simp only[sR,simprocAttr];refine SG0 ?_;refine cA (g:=none) rfl rfl fun K' hK'=>?_;simp only[sN,↓hopH.eq_def,sH,↓sP,sA,tyS,simprocAttr];refine AX (hK' _ _ ?_);clear hK' K';refine cA (g:=none) rfl rfl fun K' hK'=>?_;simp only[sN,↓hopH.eq_def,sH,↓sP,sA,tyS,simprocAttr];refine AX (hK' _ _ ?_);clear hK' K';iterate 2 refine SG0 ?_
  refine T2 (hK _ _ _ ?_);clear hK K;refine aC fun K hK=>Rg ?_;iterate 3 refine S0 ?_
  refine HS rfl rfl fun K' hK'=>T5 ?_;refine dT (args:=[_]) (kX ls a 1 hl (by omega)) rfl (by simp) ⟨rfl,rfl,rfl,rfl⟩ ?_;rintro u x' v' ⟨rfl,rfl,rfl⟩;refine AX (hK' _ _ ?_);clear hK' K';iterate 5 refine S0 ?_
  refine T2 (hK _ _ _ ?_);clear hK K;refine aC fun K hK=>?_;refine R0 ?_;refine aJ (b:=!(bH (wd ls[a] 1)).isSome) rfl (fun hb=>?_) (fun hb=>?_)
  ·
   have hno:bH (wd ls[a] 1)=none:=by simpa using hb
   rw[hno]at hnum;refine R0 ?_;refine aF (RT Tryz.results130 ?_);rw[hnum];exact eA [] [] (.c (.bool false)) [.box 94 (.c (rdr ls a)),.hrow 176 1 [.ptr 2 0],.box 2 (.c (.int .i64 y))] rfl (by simp[HV.men]) (⟨⟨by simp[HO.men,HV.men],by simp,_,rfl,by simp[HO.close,HV.close,HV.closeL,HO.ren,HV.ren,HV.renL,tau,CV.denil,HV.norm,fL,upd_at,fob_at,HV.toC,HV.toCL,rdr,CV.denilL,aQ]⟩,⟨by simp[HO.men,HV.men,HV.menL],by simp,_,rfl,by simp[HO.close,HV.close,HV.closeL,HO.ren,HV.ren,HV.renL,tau,CV.denil,HV.norm,fL,upd_at,fob_at,HV.toC,HV.toCL]⟩,⟨by simp[HO.men,HV.men],by simp,_,rfl,by simp[HO.close,HV.close,HV.closeL,HO.ren,HV.ren,HV.renL,tau,CV.denil,HV.norm,fL,upd_at,fob_at,HV.toC,HV.toCL]⟩,trivial⟩) rfl List.nodup_nil (by simp) (by simp) ⟨rfl,rfl⟩
  obtain⟨n,hn⟩: ∃n,bH (wd ls[a] 1)=some n:=by
   cases h:bH (wd ls[a] 1)with
   |none=>rw[h]at hb;simp at hb
   |some n=>exact⟨n,rfl⟩
  simp only[hn,Option.getD_some,Option.isSome_some,Bool.not_true];clear hb;refine aK ?_;refine T0 (hK _ _ _ ?_);clear hK K;refine Rg ?_;iterate 4 refine S0 ?_
  refine T2 (hK _ _ _ ?_);clear hK K;refine aM (by kernel_rfl) ?_;refine TQ (show IntKind.i64.wrap 1=1 from rfl) ?_;refine⟨⟨(1,n),.inr ⟨rfl,hn⟩⟩,fF,?_⟩;show 1-1<1-0;omega
 refine bA (T3 ?_);clear hK K;refine AX (hK _ _ _ ?_);clear hK K;obtain⟨rfl,hn⟩:i=1∧bH (wd ls[a] 1)=some y:=by
  rcases hiy with h|h
  · rw[h.1]at hb;simp at hb
  exact h
 clear hb;refine aC fun K hK=>Rg ?_;iterate 8 refine S0 ?_ (e:=fun _ h_=>by simp only[sH,↓sP,sA,tyS,simprocAttr,rdr,hw];exact AX h_)
 refine T2 (hK _ _ _ ?_);clear hK K;refine R0 ?_;refine aF (RT Tryz.results130 ?_);rw[hnum,hn];exact eA [] [] (.c (.bool true)) [.box 94 (.c (rdr ls (a+1))),.hrow 176 1 [.ptr 2 0],.box 2 (.c (.int .i64 y))] rfl (by simp[HV.men]) (⟨⟨by simp[HO.men,HV.men],by simp,_,rfl,by simp[HO.close,HV.close,HV.closeL,HO.ren,HV.ren,HV.renL,tau,CV.denil,HV.norm,fL,upd_at,fob_at,HV.toC,HV.toCL,rdr,CV.denilL,aQ]⟩,⟨by simp[HO.men,HV.men,HV.menL],by simp,_,rfl,by simp[HO.close,HV.close,HV.closeL,HO.ren,HV.ren,HV.renL,tau,CV.denil,HV.norm,fL,upd_at,fob_at,HV.toC,HV.toCL]⟩,⟨by simp[HO.men,HV.men],by simp,_,rfl,by simp[HO.close,HV.close,HV.closeL,HO.ren,HV.ren,HV.renL,tau,CV.denil,HV.norm,fL,upd_at,fob_at,HV.toC,HV.toCL]⟩,trivial⟩) rfl List.nodup_nil (by simp) (by simp) ⟨rfl,rfl⟩
theorem cG9 (ls:List (List aG))(a:Nat)(x y:Int):lst [.box 94 (.c (rdr ls a)),.hrow 176 1 [.ptr 2 0,.ptr 3 0],.box 2 (.c (.int .i64 x)),.box 2 (.c (.int .i64 y))]=fob [(0,.box 94 (.c (rdr ls a))),(1,.hrow 176 1 [.ptr 2 0,.ptr 3 0]),(2,.box 2 (.c (.int .i64 x))),(3,.box 2 (.c (.int .i64 y)))]:=by
 funext i
 match i with
 |0=>rfl
 |1=>rfl
 |2=>rfl
 |3=>rfl
 |i+4=>simp[lst,fob,upd]
theorem bO0 (ls:List (List aG))(a:Nat)(w:aG)(x y:Int)(ha:ls.length<2^40):
  HGe Tryz.prog 130 [.ptr 0 0,.c (.str w),.own 1 2] [.box 94 (.c (rdr ls a)),.hrow 176 1 [.ptr 2 0,.ptr 3 0],.box 2 (.c (.int .i64 x)),.box 2 (.c (.int .i64 y))]
   (fun r os'=>r= .c (.bool (lV ls a w).isSome)∧ ∃x' y',os'=[.box 94 (.c (rdr ls (if(lV ls a w).isSome then a+1 else a))),.hrow 176 1 [.ptr 2 0,.ptr 3 0],.box 2 (.c (.int .i64 x')),.box 2 (.c (.int .i64 y'))]∧ ∀n m,lV ls a w=some (n,m)→x'=n∧y'=m):=by
 refine bR (args:=[.ptr 0 0,.c (.str w),.own 1 2]) Tryz.func130 rfl (by kernel_rfl) (eV rfl (by simp[eE,HO.men,HV.men,HV.menL]) (by simp[HV.menL,HV.men])) (Nat.le_of_ble_eq_true rfl) ?_;show Hw _ _ 4 _ _ _ (lst _) 4;rw[cG9];refine R0 ?_;refine aC fun K hK=>?_;refine aC fun K hK=>bE (by kernel_rfl) ?_;simp only[sR,simprocAttr];iterate 3 refine SG0 ?_
 refine cA (g:=none) rfl rfl fun K' hK'=>?_;simp only[sN,↓hopH.eq_def,sH,↓sP,sA,tyS,simprocAttr];refine AX (hK' _ _ ?_);clear hK' K';refine SG0 ?_;refine bJ (g:=none) rfl rfl fun K' hK'=>T5 ?_;refine bV (args:=[_,_]) (zK ls a 3 w (by omega)) rfl (by simp) ⟨rfl,rfl,rfl,rfl⟩ ?_;rintro u v' ⟨rfl,rfl⟩;refine AX (hK' _ _ ?_);clear hK' K';refine SG0 ?_;refine T2 (hK _ _ _ ?_);clear hK K;refine aJ (b:=!isV ls a w 3) rfl (fun hb=>?_) (fun hb=>?_)
 ·
  refine R0 ?_;refine aF (RT Tryz.results130 ?_);have hv:isV ls a w 3=false:=by simpa using hb
  rw[bV7 hv];exact eA [] [] (.c (.bool false)) [.box 94 (.c (rdr ls a)),.hrow 176 1 [.ptr 2 0,.ptr 3 0],.box 2 (.c (.int .i64 x)),.box 2 (.c (.int .i64 y))] rfl (by simp[HV.men]) (⟨⟨by simp[HO.men,HV.men],by simp,_,rfl,by simp[HO.close,HV.close,HV.closeL,HO.ren,HV.ren,HV.renL,tau,CV.denil,HV.norm,fL,upd_at,fob_at,HV.toC,HV.toCL,rdr,CV.denilL,aQ]⟩,⟨by simp[HO.men,HV.men,HV.menL],by simp,_,rfl,by simp[HO.close,HV.close,HV.closeL,HO.ren,HV.ren,HV.renL,tau,CV.denil,HV.norm,fL,upd_at,fob_at,HV.toC,HV.toCL,rdr,CV.denilL,aQ]⟩,⟨by simp[HO.men,HV.men],by simp,_,rfl,by simp[HO.close,HV.close,HV.closeL,HO.ren,HV.ren,HV.renL,tau,CV.denil,HV.norm,fL,upd_at,fob_at,HV.toC,HV.toCL,rdr,CV.denilL,aQ]⟩,⟨by simp[HO.men,HV.men],by simp,_,rfl,by simp[HO.close,HV.close,HV.closeL,HO.ren,HV.ren,HV.renL,tau,CV.denil,HV.norm,fL,upd_at,fob_at,HV.toC,HV.toCL,rdr,CV.denilL,aQ]⟩,trivial⟩) rfl List.nodup_nil (by simp) (by simp) ⟨rfl,x,y,rfl,fun n m h=>by cases h⟩
 refine aK ?_;refine T0 (hK _ _ _ ?_);clear hK K;refine aC fun K hK=>?_;have hv:isV ls a w 3=true:=by simpa using hb
 obtain⟨hl,hl1,hl2⟩:=fR hv;have hnum:=aW6 hv hl;have hw:IntKind.i64.wrap ((a:Int)+1)=((a+1:Nat):Int):=IntWalk.i64_in _ (by omega);clear hb;refine aC fun K hK=>bE (by kernel_rfl) ?_;simp only[sR,simprocAttr];refine SG0 ?_;refine cA (g:=none) rfl rfl fun K' hK'=>?_;simp only[sN,↓hopH.eq_def,sH,↓sP,sA,tyS,simprocAttr];refine AX (hK' _ _ ?_);clear hK' K';refine SG0 ?_;refine T2 (hK _ _ _ ?_);clear hK K;refine aL ?_;refine bD (α:={y':Nat×Int×Int//(y'.1=0∧y'.2=(x,y))∨(y'.1=1∧bH (wd ls[a] 1)=some y'.2.1∧y'.2.2=y)∨(y'.1=2∧bH (wd ls[a] 1)=some y'.2.1∧bH (wd ls[a] 2)=some y'.2.2)}) (fun y'=>(fin [(0,.ptr 0 0),(18,.own 1 2),(19,.c (.int .i64 2)),(20,.c (.int .i64 y'.1.1))],fob [(0,.box 94 (.c (rdr ls a))),(1,.hrow 176 1 [.ptr 2 0,.ptr 3 0]),(2,.box 2 (.c (.int .i64 y'.1.2.1))),(3,.box 2 (.c (.int .i64 y'.1.2.2)))])) 100 (fun y'=>2-y'.1.1) ⟨(0,x,y),.inl ⟨rfl,rfl⟩⟩ (fF) ?_;rintro⟨⟨i,x1,y1⟩,hiy⟩;simp only[Prod.mk.injEq]at hiy;refine R0 ?_;refine aC fun K hK=>?_;refine aJ (b:=decide ((i:Int)<2)) rfl (fun hb=>?_) (fun hb=>?_)
 ·
  have hi2:i<2:=by simp at hb;omega
  clear hb;refine aK ?_;refine T0 (hK _ _ _ ?_);clear hK K;refine aC fun K hK=>?_;refine aL ?_;by_cases hi0:i=0
  ·
   subst hi0;refine aC fun K hK=>bE (by kernel_rfl) ?_;simp only[sR,simprocAttr];refine SG0 ?_;refine cA (g:=none) rfl rfl fun K' hK'=>?_;simp only[sN,↓hopH.eq_def,sH,↓sP,sA,tyS,simprocAttr];refine AX (hK' _ _ ?_);clear hK' K';refine cA (g:=none) rfl rfl fun K' hK'=>?_;simp only[sN,↓hopH.eq_def,sH,↓sP,sA,tyS,simprocAttr];refine AX (hK' _ _ ?_);clear hK' K';iterate 2 refine SG0 ?_
   refine T2 (hK _ _ _ ?_);clear hK K;refine aC fun K hK=>Rg ?_;iterate 3 refine S0 ?_
   refine HS rfl rfl fun K' hK'=>T5 ?_;refine dT (args:=[_]) (kX ls a 1 hl (by omega)) rfl (by simp) ⟨rfl,rfl,rfl,rfl⟩ ?_;rintro u x' v' ⟨rfl,rfl,rfl⟩;refine AX (hK' _ _ ?_);clear hK' K';iterate 5 refine S0 ?_
   refine T2 (hK _ _ _ ?_);clear hK K;refine aC fun K hK=>?_;refine R0 ?_;refine aJ (b:=!(bH (wd ls[a] 1)).isSome) rfl (fun hb=>?_) (fun hb=>?_)
   ·
    have hno:bH (wd ls[a] 1)=none:=by simpa using hb
    rw[hno]at hnum;have hnum:lV ls a w=none:=hnum;refine R0 ?_;refine aF (RT Tryz.results130 ?_);rw[hnum];exact eA [] [] (.c (.bool false)) [.box 94 (.c (rdr ls a)),.hrow 176 1 [.ptr 2 0,.ptr 3 0],.box 2 (.c (.int .i64 x1)),.box 2 (.c (.int .i64 y1))] rfl (by simp[HV.men]) (⟨⟨by simp[HO.men,HV.men],by simp,_,rfl,by simp[HO.close,HV.close,HV.closeL,HO.ren,HV.ren,HV.renL,tau,CV.denil,HV.norm,fL,upd_at,fob_at,HV.toC,HV.toCL,rdr,CV.denilL,aQ]⟩,⟨by simp[HO.men,HV.men,HV.menL],by simp,_,rfl,by simp[HO.close,HV.close,HV.closeL,HO.ren,HV.ren,HV.renL,tau,CV.denil,HV.norm,fL,upd_at,fob_at,HV.toC,HV.toCL,rdr,CV.denilL,aQ]⟩,⟨by simp[HO.men,HV.men],by simp,_,rfl,by simp[HO.close,HV.close,HV.closeL,HO.ren,HV.ren,HV.renL,tau,CV.denil,HV.norm,fL,upd_at,fob_at,HV.toC,HV.toCL,rdr,CV.denilL,aQ]⟩,⟨by simp[HO.men,HV.men],by simp,_,rfl,by simp[HO.close,HV.close,HV.closeL,HO.ren,HV.ren,HV.renL,tau,CV.denil,HV.norm,fL,upd_at,fob_at,HV.toC,HV.toCL,rdr,CV.denilL,aQ]⟩,trivial⟩) rfl List.nodup_nil (by simp) (by simp) ⟨rfl,_,_,rfl,fun n m h=>by cases h⟩
   obtain⟨n,hn⟩: ∃n,bH (wd ls[a] 1)=some n:=by
    cases h:bH (wd ls[a] 1)with
    |none=>rw[h]at hb;simp at hb
    |some n=>exact⟨n,rfl⟩
   simp only[hn,Option.getD_some,Option.isSome_some,Bool.not_true];clear hb;refine aK ?_;refine T0 (hK _ _ _ ?_);clear hK K;refine Rg ?_;iterate 4 refine S0 ?_
   refine T2 (hK _ _ _ ?_);clear hK K;refine aM (by kernel_rfl) ?_;simp only[↓sP,sA,tyS,simprocAttr,(show IntKind.i64.wrap 1=1 from rfl),(show IntKind.i64.wrap 2=2 from rfl)];refine⟨⟨(1,n,y1),.inr (.inl ⟨rfl,hn,by rcases hiy with h|h|h;exact h.2.2;exact absurd h.1 (by decide);exact absurd h.1 (by decide)⟩)⟩,fF,?_⟩;show 2-1<2-0;omega
  obtain rfl:i=1:=by omega
  have h1:bH (wd ls[a] 1)=some x1:=by
   rcases hiy with h|h|h
   · omega
   · exact h.2.1
   omega
  refine aC fun K hK=>bE (by kernel_rfl) ?_;simp only[sR,simprocAttr];refine SG0 ?_;refine cA (g:=none) rfl rfl fun K' hK'=>?_;simp only[sN,↓hopH.eq_def,sH,↓sP,sA,tyS,simprocAttr];refine AX (hK' _ _ ?_);clear hK' K';refine cA (g:=none) rfl rfl fun K' hK'=>?_;simp only[sN,↓hopH.eq_def,sH,↓sP,sA,tyS,simprocAttr];refine AX (hK' _ _ ?_);clear hK' K';iterate 2 refine SG0 ?_
  refine T2 (hK _ _ _ ?_);clear hK K;refine aC fun K hK=>Rg ?_;iterate 3 refine S0 ?_
  refine HS rfl rfl fun K' hK'=>T5 ?_;refine dT (args:=[_]) (kX ls a 2 hl (by omega)) rfl (by simp) ⟨rfl,rfl,rfl,rfl⟩ ?_;rintro u x' v' ⟨rfl,rfl,rfl⟩;refine AX (hK' _ _ ?_);clear hK' K';iterate 5 refine S0 ?_
  refine T2 (hK _ _ _ ?_);clear hK K;refine aC fun K hK=>?_;refine R0 ?_;refine aJ (b:=!(bH (wd ls[a] 2)).isSome) rfl (fun hb=>?_) (fun hb=>?_)
  ·
   have hno:bH (wd ls[a] 2)=none:=by simpa using hb
   rw[hno,h1]at hnum;have hnum:lV ls a w=none:=hnum;refine R0 ?_;refine aF (RT Tryz.results130 ?_);rw[hnum];exact eA [] [] (.c (.bool false)) [.box 94 (.c (rdr ls a)),.hrow 176 1 [.ptr 2 0,.ptr 3 0],.box 2 (.c (.int .i64 x1)),.box 2 (.c (.int .i64 y1))] rfl (by simp[HV.men]) (⟨⟨by simp[HO.men,HV.men],by simp,_,rfl,by simp[HO.close,HV.close,HV.closeL,HO.ren,HV.ren,HV.renL,tau,CV.denil,HV.norm,fL,upd_at,fob_at,HV.toC,HV.toCL,rdr,CV.denilL,aQ]⟩,⟨by simp[HO.men,HV.men,HV.menL],by simp,_,rfl,by simp[HO.close,HV.close,HV.closeL,HO.ren,HV.ren,HV.renL,tau,CV.denil,HV.norm,fL,upd_at,fob_at,HV.toC,HV.toCL,rdr,CV.denilL,aQ]⟩,⟨by simp[HO.men,HV.men],by simp,_,rfl,by simp[HO.close,HV.close,HV.closeL,HO.ren,HV.ren,HV.renL,tau,CV.denil,HV.norm,fL,upd_at,fob_at,HV.toC,HV.toCL,rdr,CV.denilL,aQ]⟩,⟨by simp[HO.men,HV.men],by simp,_,rfl,by simp[HO.close,HV.close,HV.closeL,HO.ren,HV.ren,HV.renL,tau,CV.denil,HV.norm,fL,upd_at,fob_at,HV.toC,HV.toCL,rdr,CV.denilL,aQ]⟩,trivial⟩) rfl List.nodup_nil (by simp) (by simp) ⟨rfl,_,_,rfl,fun n m h=>by cases h⟩
  obtain⟨n,hn⟩: ∃n,bH (wd ls[a] 2)=some n:=by
   cases h:bH (wd ls[a] 2)with
   |none=>rw[h]at hb;simp at hb
   |some n=>exact⟨n,rfl⟩
  simp only[hn,Option.getD_some,Option.isSome_some,Bool.not_true];clear hb;refine aK ?_;refine T0 (hK _ _ _ ?_);clear hK K;refine Rg ?_;iterate 4 refine S0 ?_
  refine T2 (hK _ _ _ ?_);clear hK K;refine aM (by kernel_rfl) ?_;simp only[↓sP,sA,tyS,simprocAttr,(show IntKind.i64.wrap 1=1 from rfl),(show IntKind.i64.wrap 2=2 from rfl)];refine⟨⟨(2,x1,n),.inr (.inr ⟨rfl,h1,hn⟩)⟩,fF,?_⟩;show 2-2<2-1;omega
 refine bA (T3 ?_);clear hK K;refine AX (hK _ _ _ ?_);clear hK K;obtain⟨rfl,h1,h2⟩:i=2∧bH (wd ls[a] 1)=some x1∧bH (wd ls[a] 2)=some y1:=by
  rcases hiy with h|h|h
  · rw[h.1]at hb;simp at hb
  · rw[h.1]at hb;simp at hb
  exact h
 have hnum:lV ls a w=some (x1,y1):=by rw[hnum,h1,h2]
 clear hb;refine aC fun K hK=>Rg ?_;iterate 8 refine S0 ?_ (e:=fun _ h_=>by simp only[sH,↓sP,sA,tyS,simprocAttr,rdr,hw];exact AX h_)
 refine T2 (hK _ _ _ ?_);clear hK K;refine R0 ?_;refine aF (RT Tryz.results130 ?_);rw[hnum];exact eA [] [] (.c (.bool true)) [.box 94 (.c (rdr ls (a+1))),.hrow 176 1 [.ptr 2 0,.ptr 3 0],.box 2 (.c (.int .i64 x1)),.box 2 (.c (.int .i64 y1))] rfl (by simp[HV.men]) (⟨⟨by simp[HO.men,HV.men],by simp,_,rfl,by simp[HO.close,HV.close,HV.closeL,HO.ren,HV.ren,HV.renL,tau,CV.denil,HV.norm,fL,upd_at,fob_at,HV.toC,HV.toCL,rdr,CV.denilL,aQ]⟩,⟨by simp[HO.men,HV.men,HV.menL],by simp,_,rfl,by simp[HO.close,HV.close,HV.closeL,HO.ren,HV.ren,HV.renL,tau,CV.denil,HV.norm,fL,upd_at,fob_at,HV.toC,HV.toCL,rdr,CV.denilL,aQ]⟩,⟨by simp[HO.men,HV.men],by simp,_,rfl,by simp[HO.close,HV.close,HV.closeL,HO.ren,HV.ren,HV.renL,tau,CV.denil,HV.norm,fL,upd_at,fob_at,HV.toC,HV.toCL,rdr,CV.denilL,aQ]⟩,⟨by simp[HO.men,HV.men],by simp,_,rfl,by simp[HO.close,HV.close,HV.closeL,HO.ren,HV.ren,HV.renL,tau,CV.denil,HV.norm,fL,upd_at,fob_at,HV.toC,HV.toCL,rdr,CV.denilL,aQ]⟩,trivial⟩) rfl List.nodup_nil (by simp) (by simp) ⟨rfl,_,_,rfl,fun n m h=>by cases h;exact⟨rfl,rfl⟩⟩
variable {x:Int}{a nid:Nat}{ls:List (List aG)}{K:HV→Ob→Prop}{ob:Ob}{av:List Nat}
theorem gT (w:aG){id idh ix:Nat}(hl:ls.length<2^40)(h1:ob id=some (.box 94 (.c (rdr ls a))))(h2:ob idh=some (.hrow 176 1 [.ptr ix 0]))(h3:ob ix=some (.box 2 (.c (.int .i64 x))))
  (hn:[id,idh,ix].Nodup) (hav: ∀s∈[id,idh,ix],s∉av) (hfree:Free4 ob nid)
  (hK:K (.c (.bool (fP ls a w).isSome)) (upd (upd (upd ob id (some (.box 94 (.c (rdr ls (if(fP ls a w).isSome then a+1 else a)))))) idh (some (.hrow 176 1 [.ptr ix 0]))) ix (some (.box 2 (.c (.int .i64 ((fP ls a w).getD x))))))):
  HCall Tryz.prog av 130 [.ptr id 0,.c (.str w),.own idh 1] ob nid K:=by
 refine fQ [id,idh,ix] (bN9 ls a w x hl) rfl ⟨h1,h2,h3,trivial⟩ hn hav hfree (by simp[eE,HO.men,HV.men,HV.menL]) (by simp[HV.menL,HV.men]) ?_;rintro r os' ⟨rfl,rfl⟩;exact hK
theorem aR8 (w:aG){y:Int}{id idh ix iy:Nat}(hl:ls.length<2^40)(h1:ob id=some (.box 94 (.c (rdr ls a))))(h2:ob idh=some (.hrow 176 1 [.ptr ix 0,.ptr iy 0]))(h3:ob ix=some (.box 2 (.c (.int .i64 x))))(h4:ob iy=some (.box 2 (.c (.int .i64 y))))
  (hn:[id,idh,ix,iy].Nodup) (hav: ∀s∈[id,idh,ix,iy],s∉av) (hfree:Free4 ob nid)
  (hK: ∀x' y',(∀n m,lV ls a w=some (n,m)→x'=n∧y'=m)→K (.c (.bool (lV ls a w).isSome)) (upd (upd (upd (upd ob id (some (.box 94 (.c (rdr ls (if(lV ls a w).isSome then a+1 else a)))))) idh (some (.hrow 176 1 [.ptr ix 0,.ptr iy 0]))) ix (some (.box 2 (.c (.int .i64 x'))))) iy (some (.box 2 (.c (.int .i64 y')))))):
  HCall Tryz.prog av 130 [.ptr id 0,.c (.str w),.own idh 2] ob nid K:=by
 refine fQ [id,idh,ix,iy] (bO0 ls a w x y hl) rfl ⟨h1,h2,h3,h4,trivial⟩ hn hav hfree (by simp[eE,HO.men,HV.men,HV.menL]) (by simp[HV.menL,HV.men]) ?_;rintro r os' ⟨rfl,x',y',rfl,h⟩;exact hK x' y' h
theorem aL6 (ls:List (List aG))(a:Nat)(ha:ls.length<2^40):tA Tryz.prog 128 94 (rdr ls a) [] (fun u x v'=>u=((jP ls a).getD rq0).cv∧x= .bool (jP ls a).isSome∧v'=rdr ls (if(jP ls a).isSome then a+1 else a)):=by
 refine bR Tryz.func128 rfl (by kernel_rfl) (cZ _ _ _) (Nat.le_of_ble_eq_true rfl) ?_;refine R0 ?_;refine R0 ?_;refine aC fun K hK=>?_;refine aL ?_;refine aC fun K hK=>bE (by kernel_rfl) ?_;simp only[sR,simprocAttr];refine SG0 ?_;refine cA (g:=none) rfl rfl fun K' hK'=>?_;simp only[sN,↓hopH.eq_def,sH,↓sP,sA,tyS,simprocAttr];refine AX (hK' _ _ ?_);clear hK' K';refine bJ (g:=none) rfl rfl fun K' hK'=>T5 ?_;refine gT dO ha rfl rfl rfl (by decide) (by simp) ⟨rfl,rfl,rfl,rfl⟩ ?_;refine AX (hK' _ _ ?_);clear hK' K';refine SG0 ?_;refine T2 (hK _ _ _ ?_);clear hK K;refine aJ (b:=(fP ls a dO).isSome) rfl (fun hb=>?_) (fun hb=>?_)
 ·
  obtain⟨n,hn⟩:=Option.isSome_iff_exists.1 hb;obtain⟨hl,hl1,hl2,hl3⟩:=iV hn;have hreq:jP ls a=some ⟨1,n,0,[]⟩:=by rw[fS hl,xI hl1 hl2,hl3];rfl
  simp only[hn,Option.isSome_some,if_true,Option.getD_some];refine aC fun K hK=>Rg ?_;iterate 4 refine S0 ?_
  refine T2 (hK _ _ _ ?_);clear hK K;refine aF (RT Tryz.results128 ?_);rw[hreq];exact bS [] (Rq.cv ⟨1,n,0,[]⟩) (.bool true) (rdr ls (a+1)) rfl rfl (by simp[HV.close,HV.closeL,rdr,CV.denil,CV.denilL,aQ,HV.norm,HV.toC,HV.toCL]) (by simp) ⟨rfl,rfl,rfl⟩
 have hwReleased:fP ls a dO=none:=by simpa using hb
 simp only[hwReleased,Option.isSome_none,Bool.false_eq_true,if_false,Option.getD_none];clear hb;refine aC fun K hK=>Rg ?_;refine S0 ?_;refine HS rfl rfl fun K' hK'=>T5 ?_;refine bV (args:=[_,_]) (zK ls a 2 eG (by omega)) rfl (by simp) ⟨rfl,rfl,rfl,rfl⟩ ?_;rintro u v' ⟨rfl,rfl⟩;refine AX (hK' _ _ ?_);clear hK' K';refine S0 ?_;refine T2 (hK _ _ _ ?_);clear hK K;refine aJ (b:=isV ls a eG 2) rfl (fun hb=>?_) (fun hb=>?_)
 ·
  obtain⟨hl,hl1,hl2⟩:=fR hb;have hreq:jP ls a=some ⟨2,0,0,wd ls[a] 1⟩:=by rw[fS hl,aD2 hl1 hl2]
  have hw:IntKind.i64.wrap ((a:Int)+1)=((a+1:Nat):Int):=IntWalk.i64_in _ (by omega);have hw2:IntKind.i64.wrap (((a+1:Nat):Int)-1)=(a:Int):=by rw[IntWalk.i64_in _ (by omega)];omega
  have h1:1<ls[a].length:=by omega
  refine aC fun K hK=>Rg ?_;iterate 8 refine S0 ?_ (e:=fun _ h_=>by simp only[sH,↓sP,sA,tyS,simprocAttr,rdr,hw];exact AX h_)
  refine T2 (hK _ _ _ ?_);clear hK K;refine aC fun K hK=>DW [(0,[],[]),(1,[],[]),(2,[],[]),(3,[],[]),(4,[],[]),(5,[],[]),(6,[],[]),(7,[],[]),(8,[],[]),(9,[],[]),(10,[],[]),(11,[],[]),(12,[],[]),(13,[],[]),(14,[],[]),(15,[],[])] [0,1,3,7,0,16,48,112,240,511,1023,2047,4095,8191,16383,32767] ?_;iterate 16 refine W0 ?_ (e:=fun _ h_=>by simp only[sH,↓sP,sA,tyS,simprocAttr,rdr,hw2,Int.natCast_nonneg,Int.ofNat_lt,hl,bN hl,lsC,vY h1,Int.one_nonneg,hl1];exact AX h_)
  refine T2 (hK _ _ _ ?_);clear hK K;refine aF (RT Tryz.results128 ?_);rw[hreq];exact bS [] (Rq.cv ⟨2,0,0,wd ls[a] 1⟩) (.bool true) (rdr ls (a+1)) rfl rfl (by simp[HV.close,HV.closeL,rdr,CV.denil,CV.denilL,aQ,HV.norm,HV.toC,HV.toCL]) (by simp) ⟨rfl,rfl,rfl⟩
 have hChained:isV ls a eG 2=false:=hb;clear hb;refine aC fun K hK=>bE (by kernel_rfl) ?_;simp only[sR,simprocAttr];refine SG0 ?_;refine cA (g:=none) rfl rfl fun K' hK'=>?_;simp only[sN,↓hopH.eq_def,sH,↓sP,sA,tyS,simprocAttr];refine AX (hK' _ _ ?_);clear hK' K';refine bJ (g:=none) rfl rfl fun K' hK'=>T5 ?_;refine gT dU ha rfl rfl rfl (by decide) (by simp) ⟨rfl,rfl,rfl,rfl⟩ ?_;refine AX (hK' _ _ ?_);clear hK' K';refine SG0 ?_;refine T2 (hK _ _ _ ?_);clear hK K;refine aJ (b:=(fP ls a dU).isSome) rfl (fun hb=>?_) (fun hb=>?_)
 ·
  obtain⟨n,hn⟩:=Option.isSome_iff_exists.1 hb;obtain⟨hl,hl1,hl2,hl3⟩:=iV hn;have hreq:jP ls a=some ⟨3,n,0,[]⟩:=by rw[fS hl,xJ hl1 hl2,hl3];rfl
  simp only[hn,Option.isSome_some,if_true,Option.getD_some];refine aC fun K hK=>Rg ?_;iterate 4 refine S0 ?_
  refine T2 (hK _ _ _ ?_);clear hK K;refine aF (RT Tryz.results128 ?_);rw[hreq];exact bS [] (Rq.cv ⟨3,n,0,[]⟩) (.bool true) (rdr ls (a+1)) rfl rfl (by simp[HV.close,HV.closeL,rdr,CV.denil,CV.denilL,aQ,HV.norm,HV.toC,HV.toCL]) (by simp) ⟨rfl,rfl,rfl⟩
 have hwApproved:fP ls a dU=none:=by simpa using hb
 simp only[hwApproved,Option.isSome_none,Bool.false_eq_true,if_false,Option.getD_none];clear hb;refine aC fun K hK=>bE (by kernel_rfl) ?_;simp only[sR,simprocAttr];refine SG0 ?_;refine cA (g:=none) rfl rfl fun K' hK'=>?_;simp only[sN,↓hopH.eq_def,sH,↓sP,sA,tyS,simprocAttr];refine AX (hK' _ _ ?_);clear hK' K';refine bJ (g:=none) rfl rfl fun K' hK'=>T5 ?_;refine aR8 fN ha rfl rfl rfl rfl (by decide) (by simp) ⟨rfl,rfl,rfl,rfl⟩ ?_;intro x1 y1 hxy;refine AX (hK' _ _ ?_);clear hK' K';refine SG0 ?_;refine T2 (hK _ _ _ ?_);clear hK K;refine aJ (b:=(lV ls a fN).isSome) rfl (fun hb=>?_) (fun hb=>?_)
 ·
  obtain⟨⟨n,m⟩,hn⟩:=Option.isSome_iff_exists.1 hb;obtain⟨hl,hl1,hl2,hl3,hl4⟩:=bC9 hn;obtain⟨rfl,rfl⟩:=hxy _ _ hn;have hreq:jP ls a=some ⟨4,x1,y1,[]⟩:=by rw[fS hl,aD3 hl1 hl2,hl3,hl4]
  simp only[hn,Option.isSome_some,if_true];refine aC fun K hK=>Rg ?_;iterate 5 refine S0 ?_
  refine T2 (hK _ _ _ ?_);clear hK K;refine aF (RT Tryz.results128 ?_);rw[hreq];exact bS [] (Rq.cv ⟨4,x1,y1,[]⟩) (.bool true) (rdr ls (a+1)) rfl rfl (by simp[HV.close,HV.closeL,rdr,CV.denil,CV.denilL,aQ,HV.norm,HV.toC,HV.toCL]) (by simp) ⟨rfl,rfl,rfl⟩
 have hRebuilt:lV ls a fN=none:=by simpa using hb
 simp only[hRebuilt,Option.isSome_none,Bool.false_eq_true,if_false];clear hb;refine aC fun K hK=>bE (by kernel_rfl) ?_;simp only[sR,simprocAttr];refine SG0 ?_;refine cA (g:=none) rfl rfl fun K' hK'=>?_;simp only[sN,↓hopH.eq_def,sH,↓sP,sA,tyS,simprocAttr];refine AX (hK' _ _ ?_);clear hK' K';refine bJ (g:=none) rfl rfl fun K' hK'=>T5 ?_;refine gT gK ha rfl rfl rfl (by decide) (by simp) ⟨rfl,rfl,rfl,rfl⟩ ?_;refine AX (hK' _ _ ?_);clear hK' K';refine SG0 ?_;refine T2 (hK _ _ _ ?_);clear hK K;refine aJ (b:=(fP ls a gK).isSome) rfl (fun hb=>?_) (fun hb=>?_)
 ·
  obtain⟨n,hn⟩:=Option.isSome_iff_exists.1 hb;obtain⟨hl,hl1,hl2,hl3⟩:=iV hn;have hreq:jP ls a=some ⟨5,n,0,[]⟩:=by rw[fS hl,aL5 hl1 hl2,hl3];rfl
  simp only[hn,Option.isSome_some,if_true,Option.getD_some];refine aC fun K hK=>Rg ?_;iterate 4 refine S0 ?_
  refine T2 (hK _ _ _ ?_);clear hK K;refine aF (RT Tryz.results128 ?_);rw[hreq];exact bS [] (Rq.cv ⟨5,n,0,[]⟩) (.bool true) (rdr ls (a+1)) rfl rfl (by simp[HV.close,HV.closeL,rdr,CV.denil,CV.denilL,aQ,HV.norm,HV.toC,HV.toCL]) (by simp) ⟨rfl,rfl,rfl⟩
 have hwListed:fP ls a gK=none:=by simpa using hb
 simp only[hwListed,Option.isSome_none,Bool.false_eq_true,if_false,Option.getD_none];clear hb;refine aC fun K hK=>bE (by kernel_rfl) ?_;simp only[sR,simprocAttr];refine SG0 ?_;refine cA (g:=none) rfl rfl fun K' hK'=>?_;simp only[sN,↓hopH.eq_def,sH,↓sP,sA,tyS,simprocAttr];refine AX (hK' _ _ ?_);clear hK' K';refine bJ (g:=none) rfl rfl fun K' hK'=>T5 ?_;refine gT kH ha rfl rfl rfl (by decide) (by simp) ⟨rfl,rfl,rfl,rfl⟩ ?_;refine AX (hK' _ _ ?_);clear hK' K';refine SG0 ?_;refine T2 (hK _ _ _ ?_);clear hK K;refine aJ (b:=(fP ls a kH).isSome) rfl (fun hb=>?_) (fun hb=>?_)
 ·
  obtain⟨n,hn⟩:=Option.isSome_iff_exists.1 hb;obtain⟨hl,hl1,hl2,hl3⟩:=iV hn;have hreq:jP ls a=some ⟨6,n,0,[]⟩:=by rw[fS hl,aR6 hl1 hl2,hl3];rfl
  simp only[hn,Option.isSome_some,if_true,Option.getD_some];refine aC fun K hK=>Rg ?_;iterate 4 refine S0 ?_
  refine T2 (hK _ _ _ ?_);clear hK K;refine aF (RT Tryz.results128 ?_);rw[hreq];exact bS [] (Rq.cv ⟨6,n,0,[]⟩) (.bool true) (rdr ls (a+1)) rfl rfl (by simp[HV.close,HV.closeL,rdr,CV.denil,CV.denilL,aQ,HV.norm,HV.toC,HV.toCL]) (by simp) ⟨rfl,rfl,rfl⟩
 have hwClean:fP ls a kH=none:=by simpa using hb
 simp only[hwClean,Option.isSome_none,Bool.false_eq_true,if_false,Option.getD_none];clear hb;refine aC fun K hK=>bE (by kernel_rfl) ?_;simp only[sR,simprocAttr];refine SG0 ?_;refine cA (g:=none) rfl rfl fun K' hK'=>?_;simp only[sN,↓hopH.eq_def,sH,↓sP,sA,tyS,simprocAttr];refine AX (hK' _ _ ?_);clear hK' K';refine bJ (g:=none) rfl rfl fun K' hK'=>T5 ?_;refine gT lO ha rfl rfl rfl (by decide) (by simp) ⟨rfl,rfl,rfl,rfl⟩ ?_;refine AX (hK' _ _ ?_);clear hK' K';refine SG0 ?_;refine T2 (hK _ _ _ ?_);clear hK K;refine aJ (b:=(fP ls a lO).isSome) rfl (fun hb=>?_) (fun hb=>?_)
 ·
  obtain⟨n,hn⟩:=Option.isSome_iff_exists.1 hb;obtain⟨hl,hl1,hl2,hl3⟩:=iV hn;have hreq:jP ls a=some ⟨7,n,0,[]⟩:=by rw[fS hl,aR7 hl1 hl2,hl3];rfl
  simp only[hn,Option.isSome_some,if_true,Option.getD_some];refine aC fun K hK=>Rg ?_;iterate 4 refine S0 ?_
  refine T2 (hK _ _ _ ?_);clear hK K;refine aF (RT Tryz.results128 ?_);rw[hreq];exact bS [] (Rq.cv ⟨7,n,0,[]⟩) (.bool true) (rdr ls (a+1)) rfl rfl (by simp[HV.close,HV.closeL,rdr,CV.denil,CV.denilL,aQ,HV.norm,HV.toC,HV.toCL]) (by simp) ⟨rfl,rfl,rfl⟩
 have hwFresh:fP ls a lO=none:=by simpa using hb
 simp only[hwFresh,Option.isSome_none,Bool.false_eq_true,if_false,Option.getD_none];clear hb;refine aC fun K hK=>Rg ?_;refine S0 ?_;refine HS rfl rfl fun K' hK'=>T5 ?_;refine bV (args:=[_,_]) (nG ls a jF ha) rfl (by simp) ⟨rfl,rfl,rfl,rfl⟩ ?_;rintro u v' ⟨rfl,rfl⟩;refine AX (hK' _ _ ?_);clear hK' K';refine S0 ?_;refine T2 (hK _ _ _ ?_);clear hK K;refine aJ (b:=isV ls a jF 1) rfl (fun hb=>?_) (fun hb=>?_)
 ·
  obtain⟨hl,hl1,hl2⟩:=fR hb;have hreq:jP ls a=some ⟨8,0,0,[]⟩:=by rw[fS hl,aD4 hl1 hl2]
  rw[hb];refine aC fun K hK=>Rg ?_;iterate 3 refine S0 ?_
  refine T2 (hK _ _ _ ?_);clear hK K;refine aF (RT Tryz.results128 ?_);rw[hreq];exact bS [] (Rq.cv ⟨8,0,0,[]⟩) (.bool true) (rdr ls (a+1)) rfl rfl (by simp[HV.close,HV.closeL,rdr,CV.denil,CV.denilL,aQ,HV.norm,HV.toC,HV.toCL]) (by simp) ⟨rfl,rfl,rfl⟩
 have hno:jP ls a=none:=bD0 hwReleased hChained hwApproved hRebuilt hwListed hwClean hwFresh hb;rw[hb];refine aK ?_;refine T0 (hK _ _ _ ?_);clear hK K;refine aC fun K hK=>Rg ?_;iterate 3 refine S0 ?_
 refine T2 (hK _ _ _ ?_);clear hK K;refine aF (RT Tryz.results128 ?_);rw[hno];exact bS [] rq0.cv (.bool false) (rdr ls a) rfl rfl (by simp[HV.close,HV.closeL,rdr,CV.denil,CV.denilL,aQ,HV.norm,HV.toC,HV.toCL]) (by simp) ⟨rfl,rfl,rfl⟩
theorem aL7 (ls:List (List aG))(a:Nat)(ha:ls.length<2^40):tA Tryz.prog 129 94 (rdr ls a) [] (fun u x v'=>u=((jK ls a).getD nd0).cv∧x= .bool (jK ls a).isSome∧v'=rdr ls (if(jK ls a).isSome then a+1 else a)):=by
 refine bR Tryz.func129 rfl (by kernel_rfl) (cZ _ _ _) (Nat.le_of_ble_eq_true rfl) ?_;refine R0 ?_;refine R0 ?_;refine aC fun K hK=>?_;refine aL ?_;refine aC fun K hK=>Rg ?_;refine S0 ?_;refine HS rfl rfl fun K' hK'=>T5 ?_;refine bV (args:=[_,_]) (nG ls a pB ha) rfl (by simp) ⟨rfl,rfl,rfl,rfl⟩ ?_;rintro u v' ⟨rfl,rfl⟩;refine AX (hK' _ _ ?_);clear hK' K';refine S0 ?_;refine T2 (hK _ _ _ ?_);clear hK K;refine aJ (b:=isV ls a pB 1) rfl (fun hb=>?_) (fun hb=>?_)
 ·
  have hreq:=bN7 hb;rw[hb];refine aC fun K hK=>Rg ?_;iterate 3 refine S0 ?_
  refine T2 (hK _ _ _ ?_);clear hK K;refine aF (RT Tryz.results129 ?_);rw[hreq];exact bS [] (Nd.cv ⟨2,0,0,rq0⟩) (.bool true) (rdr ls (a+1)) rfl rfl (by simp[HV.close,HV.closeL,rdr,CV.denil,CV.denilL,aQ,HV.norm,HV.toC,HV.toCL]) (by simp) ⟨rfl,rfl,rfl⟩
 have hAll:isV ls a pB 1=false:=hb;rw[hb];simp only[Bool.false_eq_true,if_false];clear hb;refine aC fun K hK=>Rg ?_;refine S0 ?_;refine HS rfl rfl fun K' hK'=>T5 ?_;refine bV (args:=[_,_]) (nG ls a pC ha) rfl (by simp) ⟨rfl,rfl,rfl,rfl⟩ ?_;rintro u v' ⟨rfl,rfl⟩;refine AX (hK' _ _ ?_);clear hK' K';refine S0 ?_;refine T2 (hK _ _ _ ?_);clear hK K;refine aJ (b:=isV ls a pC 1) rfl (fun hb=>?_) (fun hb=>?_)
 ·
  have hreq:=bN8 hb;rw[hb];refine aC fun K hK=>Rg ?_;iterate 3 refine S0 ?_
  refine T2 (hK _ _ _ ?_);clear hK K;refine aF (RT Tryz.results129 ?_);rw[hreq];exact bS [] (Nd.cv ⟨3,0,0,rq0⟩) (.bool true) (rdr ls (a+1)) rfl rfl (by simp[HV.close,HV.closeL,rdr,CV.denil,CV.denilL,aQ,HV.norm,HV.toC,HV.toCL]) (by simp) ⟨rfl,rfl,rfl⟩
 have hAny:isV ls a pC 1=false:=hb;rw[hb];simp only[Bool.false_eq_true,if_false];clear hb;refine aC fun K hK=>bE (by kernel_rfl) ?_;simp only[sR,simprocAttr];refine SG0 ?_;refine cA (g:=none) rfl rfl fun K' hK'=>?_;simp only[sN,↓hopH.eq_def,sH,↓sP,sA,tyS,simprocAttr];refine AX (hK' _ _ ?_);clear hK' K';refine bJ (g:=none) rfl rfl fun K' hK'=>T5 ?_;refine gT dD ha rfl rfl rfl (by decide) (by simp) ⟨rfl,rfl,rfl,rfl⟩ ?_;refine AX (hK' _ _ ?_);clear hK' K';refine SG0 ?_;refine T2 (hK _ _ _ ?_);clear hK K;refine aJ (b:=(fP ls a dD).isSome) rfl (fun hb=>?_) (fun hb=>?_)
 ·
  obtain⟨n,hn⟩:=Option.isSome_iff_exists.1 hb;have hreq:=bV8 hn;simp only[hn,Option.isSome_some,if_true,Option.getD_some];refine aC fun K hK=>Rg ?_;iterate 4 refine S0 ?_
  refine T2 (hK _ _ _ ?_);clear hK K;refine aF (RT Tryz.results129 ?_);rw[hreq];exact bS [] (Nd.cv ⟨4,n,0,rq0⟩) (.bool true) (rdr ls (a+1)) rfl rfl (by simp[HV.close,HV.closeL,rdr,CV.denil,CV.denilL,aQ,HV.norm,HV.toC,HV.toCL]) (by simp) ⟨rfl,rfl,rfl⟩
 have hAt:fP ls a dD=none:=by simpa using hb
 have hno:=bD1 hAll hAny hAt;simp only[hAt,Option.isSome_none,Bool.false_eq_true,if_false,Option.getD_none];refine aK ?_;refine T0 (hK _ _ _ ?_);clear hK K;refine aC fun K hK=>Rg ?_;iterate 3 refine S0 ?_
 refine T2 (hK _ _ _ ?_);clear hK K;refine aF (RT Tryz.results129 ?_);rw[hno];exact bS [] nd0.cv (.bool false) (rdr ls a) rfl rfl (by simp[HV.close,HV.closeL,rdr,CV.denil,CV.denilL,aQ,HV.norm,HV.toC,HV.toCL]) (by simp) ⟨rfl,rfl,rfl⟩
end Go.Proofs.YtlldglbooaefhaaGreatDoor
namespace Go.Pl
open Go Go.Hl
abbrev Kds :=Option (List Nd×Int)×List (List aG)
def pI (ts:List Nd)(k:Int)(x:Kds):Kds:=(x.1.map fun p=>(ts++p.1,k+p.2),x.2)
def xK (n:Nd)(x:Kds):Option (List Nd)×List (List aG):=(x.1.map fun p=>{n with c:=p.2}::p.1,x.2)
theorem bO1 (ts us:List Nd)(k j:Int)(x:Kds):pI ts k (pI us j x)=pI (ts++us) (k+j) x:=by
 obtain⟨o,r⟩:=x;cases o<;>simp[pI,List.append_assoc,Int.add_assoc]
theorem bO2 (x:Kds):pI [] 0 x=x:=by simp_all[pI]
variable {r:List (List aG)}{f:Nat}
theorem nH {w:List aG}{q:Rq}(h:eY w=some q):rdN (f+1) (w::r)=(some [⟨1,0,0,q⟩],r):=by simp only[rdN,h]
theorem nI {w:List aG}(h:eY w=none)(h2:jI w=none):rdN (f+1) (w::r)=(none,w::r):=by simp only[rdN,h,h2]
theorem oF {w:List aG}{n:Nd}(h:eY w=none)(h2:jI w=some n):rdN (f+1) (w::r)=xK n (rdK f r):=by
 simp only[rdN,h,h2]
 match rdK f r with
 |(none,r')=>rfl
 |(some (ts,c),r')=>rfl
variable {l:List (List aG)}
theorem aD5 (h:iB (l.headD [])=true):rdK (f+1) l=(some ([],0),l.tail):=by simp only[rdK,h,if_true]
theorem aR9 (h:iB (l.headD [])=false)(h2:rdN f l=(none,r)):rdK (f+1) l=(none,r):=by simp_all[rdK,Bool.false_eq_true,if_false]
variable {t:List Nd}
theorem wO (h:iB (l.headD [])=false)(h2:rdN f l=(some t,r)):rdK (f+1) l=pI t 1 (rdK f r):=by
 simp only[rdK,h,h2,Bool.false_eq_true,if_false];grind[rdK,pI,Int.add_comm]
theorem aD6 : ∀f,(∀l,∃j,(rdN f l).2=l.drop j∧ ∀t,(rdN f l).1=some t→t.length+(rdN f l).2.length≤l.length)∧(∀l,∃j,(rdK f l).2=l.drop j∧ ∀p,(rdK f l).1=some p→p.1.length+(rdK f l).2.length≤l.length)
 |0=>⟨fun l=>⟨0,by simp[rdN],fun t h=>by simp[rdN]at h⟩,fun l=>⟨0,by simp[rdK],fun t h=>by simp[rdK]at h⟩⟩
 |f+1=>by
  obtain⟨ihN,ihK⟩:=aD6 f;refine⟨fun l=>?_,fun l=>?_⟩
  ·
   match l with
   |[]=>simp_all[rdN]
   |w::r=>
    cases h1:eY w with
    |some q=>rw[nH h1];exact⟨1,rfl,fun t h=>by grind⟩
    |none=>
     cases h2:jI w with
     |none=>rw[nI h1 h2];exact⟨0,rfl,fun t h=>by cases h⟩
     |some n=>
      rw[oF h1 h2];obtain⟨j,hj,hl⟩:=ihK r;refine⟨j+1,hj,fun t h=>?_⟩;cases hk:(rdK f r).1 with
      |none=>simp[xK,hk]at h
      |some p=>
       grind[xK,rdK]
  ·
   cases he:iB (l.headD [])with
   |true=>
    rw[aD5 he];exact⟨1,by simp,fun p h=>by grind⟩
   |false=>
    obtain⟨j,hj,hl⟩:=ihN l
    match h2:rdN f l with
    |(none,r)=>
     rw[aR9 he h2];grind
    |(some t,r)=>
     rw[wO he h2];rw[h2]at hj hl;obtain⟨i,hi,hl2⟩:=ihK r;have hj':r=l.drop j:=hj;have hl':=hl t rfl;simp only at hl';refine⟨j+i,?_,fun p h=>?_⟩
     · show(rdK f r).2=_;simp_all
     ·
      cases hk:(rdK f r).1 with
      |none=>simp[pI,hk]at h
      |some q=>
       grind[pI,rdK]
theorem aW7 (f:Nat)(l:List (List aG)): ∃j,j≤l.length∧(rdN f l).2=l.drop j:=by
 obtain⟨j,hj,_⟩:=(aD6 f).1 l;rcases Nat.lt_or_ge l.length j with h|h
 · exact⟨l.length,Nat.le_refl _,by rw[hj,List.drop_eq_nil_of_le (by omega),List.drop_eq_nil_of_le (Nat.le_refl _)]⟩
 grind
variable {a:Nat}{ls:List (List aG)}
theorem sB (ha:a≤ls.length):iB ((ls.drop a).headD [])=isV ls a wEnd 1:=by
 rcases Nat.lt_or_ge a ls.length with h|h
 · rw[iJ h,List.drop_eq_getElem_cons h];rfl
 · rw[aD0 (by omega),List.drop_eq_nil_of_le h];rfl
structure KdSt (f:Nat)(ls:List (List aG))(a:Nat)(nd:Nd)(g:Nat)(ts:List Nd)(k p:Nat):Prop where
 eq:rdN f (ls.drop a)=xK nd (pI ts k (rdK g (ls.drop p)))
 le:p≤ls.length
 fuel:2*(ls.length-p)+2≤g
 lt:g<f
 len:ts.length+(ls.length-p)+1≤ls.length-a
 kids:k≤ts.length
variable {nd:Nd}
theorem KdSt.init (ha:a<ls.length)(hf:2*(ls.length-a)+1≤f)(h1:eY ls[a]=none)(h2:jI ls[a]=some nd):KdSt f ls a nd (f-1) [] 0 (a+1):=by
 obtain⟨g,rfl⟩: ∃g,f=g+1:=⟨f-1,by omega⟩;refine⟨?_,by omega,?_,by omega,by grind,by simp⟩;all_goals grind[List.drop_eq_getElem_cons,oF,xK,pI,bO2,Nat.add_sub_cancel]
variable {p g:Nat}{ts:List Nd}
theorem KdSt.end_ {nd:Nd}{k:Nat}(h:KdSt f ls a nd g ts k p)(he:isV ls p wEnd 1=true):p<ls.length∧rdN f (ls.drop a)=(some ({nd with c:=(k:Int)}::ts),ls.drop (p+1)):=by
 obtain⟨hp,_,_⟩:=fR he;obtain⟨q,rfl⟩: ∃q,g=q+1:=⟨g-1,by have:=h.fuel;omega⟩;refine⟨hp,?_⟩;rw[h.eq,aD5 (by rw[sB h.le,he])];simp[pI,xK]
theorem KdSt.no {k:Nat}(h:KdSt f ls a nd g ts k p)(he:isV ls p wEnd 1=false)(hn:(rdN (g-1) (ls.drop p)).1=none):rdN f (ls.drop a)=(none,(rdN (g-1) (ls.drop p)).2):=by
 obtain⟨q,rfl⟩: ∃q,g=q+1:=⟨g-1,by have:=h.fuel;omega⟩;simp only[Nat.add_sub_cancel]at hn⊢;rw[h.eq,aR9 (by rw[sB h.le,he]) (r:=(rdN q (ls.drop p)).2) (Prod.ext hn rfl)];rfl
theorem KdSt.some_ {k:Nat}(h:KdSt f ls a nd g ts k p)(he:isV ls p wEnd 1=false)(hs:(rdN (g-1) (ls.drop p)).1=some t):
  KdSt f ls a nd (g-1) (ts++t) (k+1) (ls.length-(rdN (g-1) (ls.drop p)).2.length):=by
 obtain⟨q,rfl⟩: ∃q,g=q+1:=⟨g-1,by have:=h.fuel;omega⟩;simp only[Nat.add_sub_cancel]at hs⊢;obtain⟨j,hj,hr⟩:=aW7 q (ls.drop p);have hlt:(rdN q (ls.drop p)).snd.length<(ls.drop p).length:=(bL2 q).1 (ls.drop p) t (rdN q (ls.drop p)).snd (Prod.ext hs rfl);obtain⟨_,_,hlen⟩:=(aD6 q).1 (ls.drop p);have hlen':=hlen t hs;have hle:=h.le;rw[hr]at hlt hlen';simp only[List.length_drop]at hj hlt hlen';have hpos:ls.length-(rdN q (ls.drop p)).2.length=p+j:=by rw[hr];simp only[List.length_drop];omega
 have hfu:=h.fuel;have hfl:=h.lt;have hll:=h.len;have hkk:=h.kids;have ht0:1≤t.length∨t=[]:=by cases t<;>simp
 rw[hpos];refine⟨?_,by omega,by omega,by omega,by grind,?_⟩
 · rw[h.eq,wO (by rw[sB h.le,he]) (r:=(rdN q (ls.drop p)).2) (Prod.ext hs rfl),bO1,hr,List.drop_drop];rfl
 ·
  simp only[List.length_append];rcases ht0 with h0|h0
  · omega
  ·
   exfalso;subst h0
   revert hs
   match q,ls.drop p with
   |0,l=>intro hs;cases hs
   |q+1,[]=>intro hs;cases hs
   |q+1,w::r=>
    intro hs;cases h1:eY w with
    |some x=>rw[nH h1]at hs;cases hs
    |none=>
     cases h2:jI w with
     |none=>rw[nI h1 h2]at hs;cases hs
     |some x=>
      rw[oF h1 h2]at hs;cases hk:(rdK q r).1 with
      |none=>simp[xK,hk]at hs
      |some y=>simp[xK,hk]at hs
end Go.Pl
namespace Go.Proofs.YtlldglbooaefhaaGreatDoor
open Go Go.Hl Go.Pl
set_option maxRecDepth 10000
set_option maxHeartbeats 16000000
def bZ2 (ls:List (List aG))(a n:Nat)(T:List Nd)(X:Option (List Nd)×List (List aG))(r:HV)(os':List HO):Prop:=
 ∃T':List Nd,r= .tup [.own 1 T'.length,.c (.bool X.1.isSome)]∧os'=[.box 94 (.c (rdr ls (ls.length-X.2.length))),.row 40 7 (T'.map Nd.cv)]∧(∀t,X.1=some t→T'=T++t)∧0<T'.length∧T'.length+X.2.length≤n+(ls.length-a)
theorem cH0 (ls:List (List aG))(a:Nat)(T:List Nd):lst [.box 94 (.c (rdr ls a)),.row 40 7 (T.map Nd.cv)]=fob [(0,.box 94 (.c (rdr ls a))),(1,.row 40 7 (T.map Nd.cv))]:=by
 funext i
 match i with
 |0=>rfl
 |1=>rfl
 |i+2=>simp[lst,fob,upd]
theorem bD2 (n:Nat)(ob:Ob)(e:TypeId)(sz:Nat)(v:CV)(L:List CV)(t:TypeId):jD (sub [0,1] n) ob 0 [.box t (.c v),.row e sz L]=upd (upd ob 0 (some (.box t (.c v)))) 1 (some (.row e sz L)):=rfl
theorem aL8 (n m:Nat)(v:CV):HV.ren (sub [0,1] n) (.tup [.own 1 m,.c v])= .tup [.own 1 m,.c v]:=rfl
theorem innR_c {w:List aG}{n:Nd}(h:jI w=some n):n.c=0:=by
 unfold jI at h;split at h
 · cases h;rfl
 split at h
 · cases h;rfl
 split at h
 ·
  cases hn:bH (wd w 1)with
  |none=>rw[hn]at h;cases h
  |some x=>rw[hn]at h;cases h;rfl
 cases h
theorem oG {ob:Ob}{ls:List (List aG)}{a b n m:Nat}{T T':List Nd}{L:List CV}{bo:Bool}{X:Option (List Nd)×List (List aG)}(h0:ob 0=some (.box 94 (.c (rdr ls b))))(h1:ob 1=some (.row 40 7 L))(hm:m=T'.length)(hL:L=T'.map Nd.cv)(hb:b=ls.length-X.2.length)(hbo:bo=X.1.isSome)
  (hT: ∀t,X.1=some t→T'=T++t) (hp:0<T'.length) (hl:T'.length+X.2.length≤n+(ls.length-a)):
  lT 2 (.tup [.own 1 m,.c (.bool bo)]) ob (fun r ob'=> ∃os',ob'=lst os'∧(2≤os'.length∧os'.length≤2+4)∧bZ2 ls a n T X r os'):=by
 subst hb hbo hm hL;exact eA [] [] (.tup [.own 1 T'.length,.c (.bool X.1.isSome)]) [.box 94 (.c (rdr ls (ls.length-X.2.length))),.row 40 7 (T'.map Nd.cv)] rfl (by simp[HV.men,HV.menL]) ⟨⟨by simp[HO.men,HV.men],by simp,_,h0,by simp[HO.close,HV.close,HO.ren,HV.ren,HV.norm,fL,HV.toC,rdr,CV.denil,CV.denilL,aQ]⟩,⟨by simp[HO.men],by simp,_,h1,rfl⟩,trivial⟩ rfl List.nodup_nil (by simp) (by simp) ⟨T',rfl,rfl,hT,hp,hl⟩
theorem bV9 (f:Nat): ∀(ls:List (List aG)) (a:Nat) (T:List Nd),a≤ls.length→2*(ls.length-a)+1≤f→0<T.length→ls.length<2^39→T.length+(ls.length-a)<2^39→
  HGe Tryz.prog 108 [.ptr 0 0,.own 1 T.length] [.box 94 (.c (rdr ls a)),.row 40 7 (T.map Nd.cv)] (bZ2 ls a T.length T (rdN f (ls.drop a))):=by
 induction f using Nat.strongRecOn with
 |ind f ih=>?_
 intro ls a T hal hfu hT0 hls hTl;refine bR (args:=[.ptr 0 0,.own 1 T.length]) Tryz.func108 rfl (by kernel_rfl) (eV rfl (by simp[eE,HO.men,HV.men,HV.menL]) (by simp[HV.menL,HV.men])) (Nat.le_of_ble_eq_true rfl) ?_;show Hw _ _ 2 _ _ _ (lst _) 2;rw[cH0];refine R0 ?_;refine aC fun K hK=>?_;refine aC fun K hK=>Rg ?_;refine S0 ?_;refine HS rfl rfl fun K' hK'=>T5 ?_;refine dT (args:=[]) (aL6 ls a (by omega)) rfl (by simp) ⟨rfl,rfl,rfl,rfl⟩ ?_;rintro u x v' ⟨rfl,rfl,rfl⟩;refine AX (hK' _ _ ?_);clear hK' K';iterate 6 refine S0 ?_
 refine T2 (hK _ _ _ ?_);clear hK K;refine R0 ?_;refine aJ (b:=(jP ls a).isSome) rfl (fun hb=>?_) (fun hb=>?_)
 ·
  obtain⟨q,hq⟩:=Option.isSome_iff_exists.1 hb;obtain⟨hl,hq2⟩: ∃h:a<ls.length,eY ls[a]=some q:=by
   unfold jP at hq;split at hq
   · exact⟨by assumption,hq⟩
   cases hq
  obtain⟨g,rfl⟩: ∃g,f=g+1:=⟨f-1,by omega⟩;rw[List.drop_eq_getElem_cons hl,nH hq2];simp only[hq,Option.isSome_some,if_true,Option.getD_some];refine aC fun K hK=>Rg ?_;iterate 7 refine S0 ?_
  refine T2 (hK _ _ _ ?_);clear hK K;refine aF (RT Tryz.results108 ?_);exact oG (T':=T++[⟨1,0,0,q⟩]) rfl rfl (by simp) (by simp) (by simp only[List.length_drop];omega) rfl (fun t h=>by cases h;rfl) (by simp) (by simp only[List.length_append,List.length_cons,List.length_nil,List.length_drop];omega)
 have hno:jP ls a=none:=by simpa using hb
 simp only[hno,Option.isSome_none,Bool.false_eq_true,if_false,Option.getD_none];clear hb;refine aK ?_;refine T0 (hK _ _ _ ?_);clear hK K;refine aC fun K hK=>Rg ?_;refine S0 ?_;refine HS rfl rfl fun K' hK'=>T5 ?_;refine dT (args:=[]) (aL7 ls a (by omega)) rfl (by simp) ⟨rfl,rfl,rfl,rfl⟩ ?_;rintro u x v' ⟨rfl,rfl,rfl⟩;refine AX (hK' _ _ ?_);clear hK' K';iterate 6 refine S0 ?_
 refine T2 (hK _ _ _ ?_);clear hK K;refine aC fun K hK=>?_;refine R0 ?_;refine aJ (b:=!(jK ls a).isSome) rfl (fun hb=>?_) (fun hb=>?_)
 ·
  have hi:jK ls a=none:=by simpa using hb
  have hX:rdN f (ls.drop a)=(none,ls.drop a):=by
   obtain⟨g,rfl⟩: ∃g,f=g+1:=⟨f-1,by omega⟩;rcases Nat.lt_or_ge a ls.length with hl|hl
   · rw[fS hl]at hno;unfold jK at hi;rw[dif_pos hl]at hi;rw[List.drop_eq_getElem_cons hl,nI hno hi]
   rw[List.drop_eq_nil_of_le hl];rfl
  rw[hX];simp only[hi,Option.isSome_none,Bool.false_eq_true,if_false];refine R0 ?_;refine aF (RT Tryz.results108 ?_);exact oG (T':=T) rfl rfl rfl rfl (by simp only[List.length_drop];omega) rfl (fun t h=>by cases h) hT0 (by simp only[List.length_drop];omega)
 refine aK ?_;refine T0 (hK _ _ _ ?_);clear hK K;obtain⟨nd,hi⟩: ∃nd,jK ls a=some nd:=by
  cases h:jK ls a with
  |none=>rw[h]at hb;simp at hb
  |some nd=>exact⟨nd,rfl⟩
 obtain⟨hl,hi2⟩: ∃h:a<ls.length,jI ls[a]=some nd:=by
  unfold jK at hi;split at hi
  · exact⟨by assumption,hi⟩
  cases hi
 rw[fS hl]at hno;have hc0:=innR_c hi2;have hnd:({k:=nd.k,n:=nd.n,c:=0,q:=nd.q}:Nd)=nd:=by cases nd;simp only at hc0;rw[hc0]
 have hst:=KdSt.init hl hfu hno hi2;simp only[hi,Option.isSome_some,if_true,Option.getD_some];clear hb;refine R0 ?_;refine aC fun K hK=>Rg ?_;iterate 5 refine S0 ?_
 refine T2 (hK _ _ _ ?_);clear hK K;refine aC fun K hK=>?_;refine aL ?_;refine bD (α:={y:Nat×List Nd×Nat×Nat//KdSt f ls a nd y.1 y.2.1 y.2.2.1 y.2.2.2}) (fun y=>(fin [(0,.ptr 0 0),(1,.own 1 (T.length+1+y.1.2.1.length)),(10,.c (.int .i64 T.length))],fob [(0,.box 94 (.c (rdr ls y.1.2.2.2))),(1,.row 40 7 ((T++{nd with c:=(y.1.2.2.1:Int)}::y.1.2.1).map Nd.cv))])) 2000 (fun y=>y.1.1) ⟨(f-1,[],0,a+1),hst⟩ (aN (by omega) (by simp[aZ,fin_at,finA_at,upd_at,HV.men,HV.menL,HV.norm,HV.toC,HV.toCL,hnd]) (by simp[aY,fob_at,upd_at,none0_at,bU,HO.men,HV.men,HV.menL,HV.norm,HV.toC,HV.toCL,hnd])) ?_;rintro⟨⟨g,ts,k,p⟩,hΦ⟩;simp only at hΦ;refine aC fun K hK=>?_;refine aC fun K hK=>Rg ?_;refine S0 ?_;refine HS rfl rfl fun K' hK'=>T5 ?_;refine bV (args:=[_,_]) (nG ls p wEnd (by omega)) rfl (by simp) ⟨rfl,rfl,rfl,rfl⟩ ?_;rintro u v' ⟨rfl,rfl⟩;refine AX (hK' _ _ ?_);clear hK' K';refine S0 ?_;refine T2 (hK _ _ _ ?_);clear hK K;refine aJ (b:=!isV ls p wEnd 1) rfl (fun hb=>?_) (fun hb=>?_)
 ·
  have hev:isV ls p wEnd 1=false:=by simpa using hb
  obtain⟨Tq,hTq⟩: ∃Tq,Tq=T++{nd with c:=(k:Int)}::ts:=⟨_,rfl⟩;have hTql:T.length+1+ts.length=Tq.length:=by rw[hTq];simp;omega
  have hp1:=hΦ.le;have hp2:=hΦ.fuel;have hp3:=hΦ.lt;have hp4:=hΦ.len;have hp5:=hΦ.kids;rw[←hTq,hTql,hev];simp only[Bool.false_eq_true,if_false];clear hb;refine aK ?_;refine T0 (hK _ _ _ ?_);clear hK K;refine aL ?_;refine aC fun K hK=>?_;refine aC fun K hK=>Rg ?_;iterate 2 refine S0 ?_
  refine HS rfl rfl fun K' hK'=>T5 ?_;refine fQ [0,1] (ih (g-1) (by omega) ls p Tq hp1 (by omega) (by omega) hls (by omega)) rfl ⟨rfl,rfl,trivial⟩ (by simp) (by simp) ⟨rfl,rfl,rfl,rfl⟩ (by simp[eE,HO.men,HV.men,HV.menL]) (by simp[HV.menL,HV.men]) ?_;rintro r os' ⟨T',rfl,rfl,h1,h2,h3⟩;rw[bD2,aL8];refine AX (hK' _ _ ?_);clear hK' K';iterate 5 refine S0 ?_
  refine T2 (hK _ _ _ ?_);clear hK K;refine R0 ?_;refine aJ (b:=!(rdN (g-1) (ls.drop p)).1.isSome) rfl (fun hb=>?_) (fun hb=>?_)
  ·
   have hn2:(rdN (g-1) (ls.drop p)).1=none:=by simpa using hb
   rw[hΦ.no hev hn2];refine R0 ?_;refine aF (RT Tryz.results108 ?_);exact oG (T':=T') rfl rfl rfl rfl rfl rfl (fun t h=>by cases h) h2 (by simp only;omega)
  obtain⟨t,ht⟩: ∃t,(rdN (g-1) (ls.drop p)).1=some t:=by
   cases h:(rdN (g-1) (ls.drop p)).1 with
   |none=>rw[h]at hb;simp at hb
   |some t=>exact⟨t,rfl⟩
  have hst2:=hΦ.some_ hev ht;have hT':=h1 t ht;have hlt:T.length<T'.length:=by rw[hT',List.length_append];omega
  have hge:T'[T.length]={nd with c:=(k:Int)}:=by simp[hT',hTq]
  have hw:IntKind.i64.wrap ((k:Int)+1)=((k+1:Nat):Int):=IntWalk.i64_in _ (by omega);have hmne:(T'.map Nd.cv=[])=False:=by simp;intro h;rw[h]at hlt;cases hlt
  clear hb;refine aK ?_;refine T0 (hK _ _ _ ?_);clear hK K;refine Rg ?_;have F:=aI @Int.natCast_nonneg (aI @Int.ofNat_lt (aI hlt (aI (nM hlt) (aI hge (aI hw (aI hmne (aI not_false_eq_true @List.length_map.{0,0})))))));iterate 9 refine SF ?_
  refine T4 ?_;refine⟨⟨(g-1,ts++t,k+1,ls.length-(rdN (g-1) (ls.drop p)).2.length),hst2⟩,?_,?_⟩
  ·
   have hrow:(List.map Nd.cv T').set T.length (Nd.cv {nd with c:=((k+1:Nat):Int)})=List.map Nd.cv (T++{nd with c:=((k+1:Nat):Int)}::(ts++t)):=by
    rw[hT',hTq,←List.map_set];simp[List.set_append]
   have hlen:T'.length=T.length+1+(ts++t).length:=by rw[hT',hTq];simp;omega
   simp only[];rw[←hrow,←hlen];exact fF
  show g-1<g;omega
 have hev:isV ls p wEnd 1=true:=by simpa using hb
 obtain⟨hp,hX⟩:=hΦ.end_ hev;have hp4:=hΦ.len;rw[hev];simp only[if_true];refine bA (T3 ?_);clear hK K;refine AX (hK _ _ _ ?_);clear hK K;refine R0 ?_;refine aF (RT Tryz.results108 ?_);rw[hX];exact oG (T':=T++{nd with c:=(k:Int)}::ts) rfl rfl (by simp;omega) rfl (by simp only[List.length_drop];omega) rfl (fun t h=>by cases h;rfl) (by simp;omega) (by simp only[List.length_append,List.length_cons,List.length_drop];omega)
theorem bD3 (N n:Nat)(ob:Ob)(e:TypeId)(sz:Nat)(v:CV)(L:List CV)(t:TypeId):jD (sub [0,N] n) ob 0 [.box t (.c v),.row e sz L]=upd (upd ob 0 (some (.box t (.c v)))) N (some (.row e sz L)):=rfl
theorem zL (N n m:Nat)(v:CV):HV.ren (sub [0,N] n) (.tup [.own 1 m,.c v])= .tup [.own N m,.c v]:=rfl
theorem bO3 (f:Nat)(ls:List (List aG))(a:Nat)(hal:a≤ls.length)(hfu:2*(ls.length-a)+1≤f)(hls:ls.length<2^39):
  tA Tryz.prog 108 94 (rdr ls a) [.nils] (fun u x v'=> ∃T':List Nd,u= .slc (T'.map Nd.cv)∧x= .bool (rdN f (ls.drop a)).1.isSome∧v'=rdr ls (ls.length-(rdN f (ls.drop a)).2.length)∧ ∀t,(rdN f (ls.drop a)).1=some t→T'=t):=by
 refine bR Tryz.func108 rfl (by kernel_rfl) (cZ _ _ _) (Nat.le_of_ble_eq_true rfl) ?_;refine R0 ?_;refine aC fun K hK=>?_;refine aC fun K hK=>Rg ?_;refine S0 ?_;refine HS rfl rfl fun K' hK'=>T5 ?_;refine dT (args:=[]) (aL6 ls a (by omega)) rfl (by simp) ⟨rfl,rfl,rfl,rfl⟩ ?_;rintro u x v' ⟨rfl,rfl,rfl⟩;refine AX (hK' _ _ ?_);clear hK' K';iterate 6 refine S0 ?_
 refine T2 (hK _ _ _ ?_);clear hK K;refine R0 ?_;refine aJ (b:=(jP ls a).isSome) rfl (fun hb=>?_) (fun hb=>?_)
 ·
  obtain⟨q,hq⟩:=Option.isSome_iff_exists.1 hb;obtain⟨hl,hq2⟩: ∃h:a<ls.length,eY ls[a]=some q:=by
   unfold jP at hq;split at hq
   · exact⟨by assumption,hq⟩
   cases hq
  obtain⟨g,rfl⟩: ∃g,f=g+1:=⟨f-1,by omega⟩;rw[List.drop_eq_getElem_cons hl,nH hq2];simp only[hq,Option.isSome_some,if_true,Option.getD_some];refine aC fun K hK=>Rg ?_;iterate 7 refine S0 ?_
  refine T2 (hK _ _ _ ?_);clear hK K;refine aF (RT Tryz.results108 ?_);exact bS [61] (.slc [Nd.cv ⟨1,0,0,q⟩]) (.bool true) (rdr ls (a+1)) (by simp[HV.close,HV.closeL,HO.close,fob_at,upd_at,CV.denil,CV.denilL,denilL_Nd,HV.norm,HV.toC,HV.toCL]) rfl (by simp[HV.close,HV.closeL,rdr,CV.denil,CV.denilL,aQ,HV.norm,HV.toC,HV.toCL]) (by simp) ⟨[⟨1,0,0,q⟩],rfl,rfl,by simp only[List.length_drop];congr 1;omega,fun t h=>by cases h;rfl⟩
 have hno:jP ls a=none:=by simpa using hb
 simp only[hno,Option.isSome_none,Bool.false_eq_true,if_false,Option.getD_none];clear hb;refine aK ?_;refine T0 (hK _ _ _ ?_);clear hK K;refine aC fun K hK=>Rg ?_;refine S0 ?_;refine HS rfl rfl fun K' hK'=>T5 ?_;refine dT (args:=[]) (aL7 ls a (by omega)) rfl (by simp) ⟨rfl,rfl,rfl,rfl⟩ ?_;rintro u x v' ⟨rfl,rfl,rfl⟩;refine AX (hK' _ _ ?_);clear hK' K';iterate 6 refine S0 ?_
 refine T2 (hK _ _ _ ?_);clear hK K;refine aC fun K hK=>?_;refine R0 ?_;refine aJ (b:=!(jK ls a).isSome) rfl (fun hb=>?_) (fun hb=>?_)
 ·
  have hi:jK ls a=none:=by simpa using hb
  have hX:rdN f (ls.drop a)=(none,ls.drop a):=by
   obtain⟨g,rfl⟩: ∃g,f=g+1:=⟨f-1,by omega⟩;rcases Nat.lt_or_ge a ls.length with hl|hl
   · rw[fS hl]at hno;unfold jK at hi;rw[dif_pos hl]at hi;rw[List.drop_eq_getElem_cons hl,nI hno hi]
   rw[List.drop_eq_nil_of_le hl];rfl
  rw[hX];simp only[hi,Option.isSome_none,Bool.false_eq_true,if_false];refine R0 ?_;refine aF (RT Tryz.results108 ?_);exact bS [] (.slc []) (.bool false) (rdr ls a) (by simp[HV.close,HV.closeL,HO.close,fob_at,upd_at,CV.denil,CV.denilL,denilL_Nd,HV.norm,HV.toC,HV.toCL]) rfl (by simp[HV.close,HV.closeL,rdr,CV.denil,CV.denilL,aQ,HV.norm,HV.toC,HV.toCL]) (by simp) (by refine⟨[],rfl,rfl,?_⟩;first|exact(by simp only[List.length_drop];congr 1;omega)|exact⟨by simp only[List.length_drop];congr 1;omega,fun t h=>by cases h⟩)
 refine aK ?_;refine T0 (hK _ _ _ ?_);clear hK K;obtain⟨nd,hi⟩: ∃nd,jK ls a=some nd:=by
  cases h:jK ls a with
  |none=>rw[h]at hb;simp at hb
  |some nd=>exact⟨nd,rfl⟩
 obtain⟨hl,hi2⟩: ∃h:a<ls.length,jI ls[a]=some nd:=by
  unfold jK at hi;split at hi
  · exact⟨by assumption,hi⟩
  cases hi
 rw[fS hl]at hno;have hc0:=innR_c hi2;have hnd:({k:=nd.k,n:=nd.n,c:=0,q:=nd.q}:Nd)=nd:=by cases nd;simp only at hc0;rw[hc0]
 have hst:=KdSt.init hl hfu hno hi2;simp only[hi,Option.isSome_some,if_true,Option.getD_some];clear hb;refine R0 ?_;refine aC fun K hK=>Rg ?_;iterate 5 refine S0 ?_
 refine T2 (hK _ _ _ ?_);clear hK K;refine aC fun K hK=>?_;refine aL ?_;refine bD (α:={y:Nat×List Nd×Nat×Nat//KdSt f ls a nd y.1 y.2.1 y.2.2.1 y.2.2.2}) (fun y=>(fin [(0,.ptr 0 0),(1,.own 109 (1+y.1.2.1.length)),(10,.c (.int .i64 0))],fob [(0,.box 94 (.c (rdr ls y.1.2.2.2))),(109,.row 40 7 (({nd with c:=(y.1.2.2.1:Int)}::y.1.2.1).map Nd.cv))])) 2000 (fun y=>y.1.1) ⟨(f-1,[],0,a+1),hst⟩ (aN (by omega) (by simp[aZ,fin_at,finA_at,upd_at,HV.men,HV.menL,HV.norm,HV.toC,HV.toCL,hnd]) (by simp[aY,fob_at,upd_at,none0_at,bU,HO.men,HV.men,HV.menL,HV.norm,HV.toC,HV.toCL,hnd])) ?_;rintro⟨⟨g,ts,k,p⟩,hΦ⟩;simp only at hΦ;refine aC fun K hK=>?_;refine aC fun K hK=>Rg ?_;refine S0 ?_;refine HS rfl rfl fun K' hK'=>T5 ?_;refine bV (args:=[_,_]) (nG ls p wEnd (by omega)) rfl (by simp) ⟨rfl,rfl,rfl,rfl⟩ ?_;rintro u v' ⟨rfl,rfl⟩;refine AX (hK' _ _ ?_);clear hK' K';refine S0 ?_;refine T2 (hK _ _ _ ?_);clear hK K;refine aJ (b:=!isV ls p wEnd 1) rfl (fun hb=>?_) (fun hb=>?_)
 ·
  have hev:isV ls p wEnd 1=false:=by simpa using hb
  obtain⟨Tq,hTq⟩: ∃Tq,Tq={nd with c:=(k:Int)}::ts:=⟨_,rfl⟩;have hTql:1+ts.length=Tq.length:=by rw[hTq];simp;omega
  have hp1:=hΦ.le;have hp2:=hΦ.fuel;have hp3:=hΦ.lt;have hp4:=hΦ.len;have hp5:=hΦ.kids;have hTm:Nd.cv {nd with c:=(k:Int)}::List.map Nd.cv ts=List.map Nd.cv Tq:=by rw[hTq];rfl
  rw[hTm,hTql,hev];simp only[Bool.false_eq_true,if_false];clear hb;refine aK ?_;refine T0 (hK _ _ _ ?_);clear hK K;refine aL ?_;refine aC fun K hK=>?_;refine aC fun K hK=>Rg ?_;iterate 2 refine S0 ?_
  refine HS rfl rfl fun K' hK'=>T5 ?_;refine fQ [0,109] (bV9 (g-1) ls p Tq hp1 (by omega) (by omega) hls (by omega)) rfl ⟨rfl,rfl,trivial⟩ (by simp) (by simp) ⟨rfl,rfl,rfl,rfl⟩ (by simp[eE,HO.men,HV.men,HV.menL]) (by simp[HV.menL,HV.men]) ?_;rintro r os' ⟨T',rfl,rfl,h1,h2,h3⟩;rw[bD3,zL];refine AX (hK' _ _ ?_);clear hK' K';iterate 5 refine S0 ?_
  refine T2 (hK _ _ _ ?_);clear hK K;refine R0 ?_;refine aJ (b:=!(rdN (g-1) (ls.drop p)).1.isSome) rfl (fun hb=>?_) (fun hb=>?_)
  ·
   have hn2:(rdN (g-1) (ls.drop p)).1=none:=by simpa using hb
   rw[hΦ.no hev hn2];refine R0 ?_;refine aF (RT Tryz.results108 ?_);exact bS [109] (.slc (T'.map Nd.cv)) (.bool false) (rdr ls (ls.length-(rdN (g-1) (ls.drop p)).2.length)) (by simp[HV.close,HV.closeL,HO.close,fob_at,upd_at,CV.denil,CV.denilL,denilL_Nd,HV.norm,HV.toC,HV.toCL]) rfl (by simp[HV.close,HV.closeL,rdr,CV.denil,CV.denilL,aQ,HV.norm,HV.toC,HV.toCL]) (by simp) (by refine⟨T',rfl,rfl,?_⟩;first|exact rfl|exact⟨rfl,fun t h=>by cases h⟩)
  obtain⟨t,ht⟩: ∃t,(rdN (g-1) (ls.drop p)).1=some t:=by
   cases h:(rdN (g-1) (ls.drop p)).1 with
   |none=>rw[h]at hb;simp at hb
   |some t=>exact⟨t,rfl⟩
  have hst2:=hΦ.some_ hev ht;have hT':=h1 t ht;have hlt:0<T'.length:=by rw[hT',List.length_append];omega
  have hge:T'[0]={nd with c:=(k:Int)}:=by simp[hT',hTq]
  have hw:IntKind.i64.wrap ((k:Int)+1)=((k+1:Nat):Int):=IntWalk.i64_in _ (by omega);have hmne:(T'.map Nd.cv=[])=False:=by simp;intro h;rw[h]at hlt;cases hlt
  clear hb;refine aK ?_;refine T0 (hK _ _ _ ?_);clear hK K;refine Rg ?_;have F:=aI @Int.natCast_nonneg (aI @Int.ofNat_lt (aI hlt (aI (nM hlt) (aI hge (aI hw (aI hmne (aI not_false_eq_true @List.length_map.{0,0})))))));iterate 9 refine SF ?_
  refine T4 ?_;refine⟨⟨(g-1,ts++t,k+1,ls.length-(rdN (g-1) (ls.drop p)).2.length),hst2⟩,?_,?_⟩
  ·
   have hrow:(List.map Nd.cv T').set 0 (Nd.cv {nd with c:=((k+1:Nat):Int)})=List.map Nd.cv ({nd with c:=((k+1:Nat):Int)}::(ts++t)):=by
    rw[hT',hTq,←List.map_set];simp
   have hlen:T'.length=1+(ts++t).length:=by rw[hT',hTq];simp;omega
   simp only[];rw[←hrow,←hlen];exact fF
  show g-1<g;omega
 have hev:isV ls p wEnd 1=true:=by simpa using hb
 obtain⟨hp,hX⟩:=hΦ.end_ hev;have hp4:=hΦ.len;rw[hev];simp only[if_true];refine bA (T3 ?_);clear hK K;refine AX (hK _ _ _ ?_);clear hK K;refine R0 ?_;refine aF (RT Tryz.results108 ?_);rw[hX];exact bS [109] (.slc (({nd with c:=(k:Int)}::ts).map Nd.cv)) (.bool true) (rdr ls (p+1)) (by simp[show 1+ts.length=ts.length+1 from by omega,HV.close,HV.closeL,HO.close,fob_at,upd_at,CV.denil,CV.denilL,denilL_Nd,HV.norm,HV.toC,HV.toCL]) rfl (by simp[HV.close,HV.closeL,rdr,CV.denil,CV.denilL,aQ,HV.norm,HV.toC,HV.toCL]) (by simp) ⟨_,rfl,rfl,by simp only[List.length_drop];congr 1;omega,fun t h=>by cases h;rfl⟩
end Go.Proofs.YtlldglbooaefhaaGreatDoor
