/- Part of a proof: walks of functions of the program, by contracts, and the rules they use. By an AI agent. -/
import Derived.Test.YtlgckianjabghaaGreatDoorPl03c
set_option maxRecDepth 10000
set_option maxHeartbeats 16000000
set_option linter.unusedSimpArgs false
set_option linter.unusedVariables false
set_option linter.defProp false
namespace Go.Proofs.YtlgckianjabghaaGreatDoor
open Go Go.Hl Go.Pl
theorem aW3 (p:aH):gB Tryz.prog 85 [.str p] (fun u v=>u= .slc (((fN p).getD []).map Pt.cv)∧v= .bool (fN p).isSome):=by
 refine FW Tryz.func85 ?_;refine R0 ?_;refine aC fun K hK=>?_;refine aC fun K hK=>Rg ?_;iterate 4 refine S0 ?_
 refine aG 8 rfl (fun h1_8=>?_) (fun h1_8=>?_)
 ·
  have F:=h1_8;iterate 9 refine SF ?_
  refine T2 (hK _ _ _ ?_);clear hK K;refine CT rfl ?_;refine R0 ?_;refine aE (RT Tryz.results85 ?_);have hn:fN p=none:=tQ (by simp at h1_8;omega);refine aO [] (.slc []) (.bool false) ?_ ⟨by rw[hn];rfl,by rw[hn];rfl⟩;simp
 have F:=h1_8;iterate 5 refine SF ?_
 refine aG 12 rfl (fun h1_12=>?_) (fun h1_12=>?_)
 ·
  have F:=aI h1_8 h1_12;iterate 4 refine SF ?_
  refine T2 (hK _ _ _ ?_);clear hK K;refine CT rfl ?_;refine R0 ?_;refine aE (RT Tryz.results85 ?_);have hn:fN p=none:=tQ (by simp at h1_12;omega);refine aO [] (.slc []) (.bool false) ?_ ⟨by rw[hn];rfl,by rw[hn];rfl⟩;simp
 have F:=aI h1_8 h1_12;refine SF ?_;refine aW (g:=some (14,false)) rfl rfl fun K' hK'=>T6 ?_;refine C2 (tI p 0) ?_;rintro u rfl;refine AX (hK' _ _ ?_);clear hK' K';iterate 2 refine SF ?_
 refine aG 17 rfl (fun h1_17=>?_) (fun h1_17=>?_)
 ·
  simp only[h1_17];refine T2 (hK _ _ _ ?_);clear hK K;refine CT rfl ?_;refine R0 ?_;refine aE (RT Tryz.results85 ?_);have hn:fN p=none:=by
   rw[aM8 (by simp at h1_8;omega) (by simp at h1_12;omega)];exact kT p.length p (F2 _) (aW2 (by simpa using h1_17))
  refine aO [] (.slc []) (.bool false) ?_ ⟨by rw[hn];rfl,by rw[hn];rfl⟩;simp
 simp only[h1_17];refine T2 (hK _ _ _ ?_);clear hK K;refine CF rfl ?_;refine aJ ?_;refine T0 (hK _ _ _ ?_);clear hK K;have hpv:=aM8 (p:=p) (by simp at h1_8;omega) (by simp at h1_12;omega);have hl:p.length≤200:=by simp at h1_12;omega
 have hz0:(0:UInt8)∉p:=wM (by simpa using h1_17);have hz: ∀(i:Nat) (h:i<p.length),p[i]≠0:=fun i h e=>hz0 (e▸C0 h);clear h1_8 h1_12 h1_17;refine R0 ?_;refine aC fun K hK=>?_;refine R0 ?_;refine aM ?_;refine iN 4 0 138 2 rfl rfl rfl rfl ?_;refine bN (α:={y:Nat×List Pt//PatSt p y.1 y.2}) (fun y=>(fin [(0,.c (.str p)),(4,.own 68 y.1.2.length),(5,.c (.int .i64 y.1.1))],fob [(68,.row 138 2 (y.1.2.map Pt.cv))])) 100 (fun y=>p.length-y.1.1) ⟨(0,[]),PatSt.init p⟩ (fF) ?_;rintro⟨⟨i,out⟩,hst⟩;simp only at hst;have hi:=hst.1;have ho:=hst.2.2.1;refine aC fun K hK=>?_;refine aC fun K hK=>Rg ?_;iterate 4 refine S0 ?_
 refine T2 (hK _ _ _ ?_);clear hK K;refine aF (b:=decide ((i:Int)<p.length)) rfl (fun hb=>?_) (fun hb=>?_)
 ·
  have hlt:i<p.length:=by simpa using hb
  clear hb;have hgd:p.getD i 0=p[i]:=by simp[hlt]
  have hw1:IntKind.i64.wrap ((i:Int)+1)=((i+1:Nat):Int):=by rw[A8 _ (by omega)];rfl
  have hw2:IntKind.i64.wrap (((i+1:Nat):Int)+1)=((i+2:Nat):Int):=by rw[A8 _ (by omega)];rfl
  refine aJ ?_;refine T0 (hK _ _ _ ?_);clear hK K;refine aC fun K hK=>?_;refine aM ?_;refine aM ?_;refine aC fun K hK=>Rg ?_;iterate 5 refine S0 ?_ (e:=fun _ h_=>by simp only[sH,↓sP,sA,tyS,simprocAttr,A0,A4,hlt,hgd];exact AX h_)
  refine T2 (hK _ _ _ ?_);clear hK K;refine aF (b:=((p[i].toNat:Int)==92)) rfl (fun hb=>?_) (fun hb=>?_)
  ·
   have h92:p[i]=92:=bEq (d:=92) hb;clear hb;have F:=hw1;refine RF ?_;refine aC fun K hK=>?_;refine aC fun K hK=>Rg ?_;iterate 4 refine S0 ?_
   refine T2 (hK _ _ _ ?_);clear hK K;refine aF (b:=(((i+1:Nat):Int)==((p.length:Nat):Int))) rfl (fun hb=>?_) (fun hb=>?_)
   ·
    have hie:i+1=p.length:=by have:=eq_of_beq hb;omega
    refine R0 ?_;refine aE (RT Tryz.results85 ?_);have hn:fN p=none:=by rw[hpv];exact hst.bad (aE1 hlt h92 hie)
    refine aO [] (.slc []) (.bool false) ?_ ⟨by rw[hn];rfl,by rw[hn];rfl⟩;simp
   have hi1:i+1<p.length:=by
    have: ¬i+1=p.length:=by rintro e;rw[e]at hb;simp at hb
    omega
   clear hb;have hg1:p.getD (i+1) 0=p[i+1]:=by simp[hi1]
   refine aJ ?_;refine T0 (hK _ _ _ ?_);clear hK K;refine Rg ?_;have F:=aI @A0 (aI @A4 (aI hi1 (aI hg1 (aI @A3.{0} @A2.{0,0}))));iterate 8 refine SF ?_
   refine T2 (hK _ _ _ ?_);clear hK K;refine aL (by kernel_rfl) ?_;refine TQ hw2 ?_;refine⟨⟨(i+2,out++[⟨0,p[i+1]⟩]),hst.step (k:=2) (by omega) (by omega) (by simp) (aS6 hi1 h92 (hz (i+1) hi1))⟩,aP (by omega) ?_ ?_,?_⟩
   · simp
   · simp only[dC,C5];exact⟨rfl,by omega,trivial,trivial⟩
   show p.length-(i+2)<p.length-i;omega
  have h92:p[i]≠92:=bNe (d:=92) hb;clear hb;refine aC fun K hK=>Rg ?_;iterate 5 refine S0 ?_ (e:=fun _ h_=>by simp only[sH,↓sP,sA,tyS,simprocAttr,A0,A4,hlt,hgd];exact AX h_)
  refine T2 (hK _ _ _ ?_);clear hK K;refine aF (b:=((p[i].toNat:Int)==63)) rfl (fun hb=>?_) (fun hb=>?_)
  ·
   have h63:p[i]=63:=bEq (d:=63) hb;clear hb;refine Rg ?_;have F:=aI @A3.{0} @A2.{0,0};iterate 5 refine SF ?_
   refine T2 (hK _ _ _ ?_);clear hK K;refine aL (by kernel_rfl) ?_;refine TQ hw1 ?_;refine⟨⟨(i+1,out++[⟨1,0⟩]),hst.step (k:=1) (by omega) (by omega) (by simp) (bW9 hlt h63)⟩,aP (by omega) ?_ ?_,?_⟩
   · simp
   · simp only[dC,C5];exact⟨rfl,by omega,trivial,trivial⟩
   show p.length-(i+1)<p.length-i;omega
  have h63:p[i]≠63:=bNe (d:=63) hb;clear hb;by_cases h42:p[i]=42
  ·
   by_cases hi1:i+1<p.length
   ·
    by_cases h43:p[i+1]=42
    ·
     have hd42:((p[i].toNat:Int)==42)=true:=by rw[h42];rfl
     have hg1:p.getD (i+1) 0=p[i+1]:=by simp[hi1]
     have hd43:((p[i+1].toNat:Int)==42)=true:=by rw[h43];rfl
     refine aC fun K hK=>Rg ?_;iterate 19 refine S0 ?_ (e:=fun _ h_=>by simp only[sH,↓sP,sA,tyS,simprocAttr,A0,A4,hlt,hgd,hw1,hi1,hg1,hd42,hd43,Y5];exact AX h_)
     refine T2 (hK _ _ _ ?_);clear hK K;refine CT rfl ?_;have F:=hw1;refine RF ?_;refine Rg ?_;have F:=aI @A3.{0} @A2.{0,0};iterate 5 refine SF ?_
     refine T2 (hK _ _ _ ?_);clear hK K;refine aL (by kernel_rfl) ?_;refine TQ hw2 ?_;refine⟨⟨(i+2,out++[⟨3,0⟩]),hst.step (k:=2) (by omega) (by omega) (by simp) (bH8 hi1 h42 h43)⟩,aP (by omega) ?_ ?_,?_⟩
     · simp
     · simp only[dC,C5];exact⟨rfl,by omega,trivial,trivial⟩
     show p.length-(i+2)<p.length-i;omega
    have hd42:((p[i].toNat:Int)==42)=true:=by rw[h42];rfl
    have hg1:p.getD (i+1) 0=p[i+1]:=by simp[hi1]
    have hd43:((p[i+1].toNat:Int)==42)=false:=by rw[show(42:Int)=((42:UInt8).toNat:Int)from rfl,bP7];simpa using h43
    refine aC fun K hK=>Rg ?_;iterate 19 refine S0 ?_ (e:=fun _ h_=>by simp only[sH,↓sP,sA,tyS,simprocAttr,A0,A4,hlt,hgd,hw1,hi1,hg1,hd42,hd43,Y5];exact AX h_)
    refine T2 (hK _ _ _ ?_);clear hK K;refine CF rfl ?_;refine aC fun K hK=>Rg ?_;iterate 5 refine S0 ?_ (e:=fun _ h_=>by simp only[sH,↓sP,sA,tyS,simprocAttr,A0,A4,hlt,hgd,hd42];exact AX h_)
    refine T2 (hK _ _ _ ?_);clear hK K;refine CT rfl ?_;refine Rg ?_;have F:=aI @A3.{0} @A2.{0,0};iterate 5 refine SF ?_
    refine T2 (hK _ _ _ ?_);clear hK K;refine aL (by kernel_rfl) ?_;refine TQ hw1 ?_;refine⟨⟨(i+1,out++[⟨2,0⟩]),hst.step (k:=1) (by omega) (by omega) (by simp) (aL0 hlt h42 fun _=>h43)⟩,aP (by omega) ?_ ?_,?_⟩
    · simp
    · simp only[dC,C5];exact⟨rfl,by omega,trivial,trivial⟩
    show p.length-(i+1)<p.length-i;omega
   have hd42:((p[i].toNat:Int)==42)=true:=by rw[h42];rfl
   have hdi:decide (((i+1:Nat):Int)<((p.length:Nat):Int))=false:=by simp;omega
   refine aC fun K hK=>Rg ?_;iterate 19 refine S0 ?_ (e:=fun _ h_=>by simp only[sH,↓sP,sA,tyS,simprocAttr,A0,hdi,hlt,hgd,hw1,hd42];exact AX h_)
   refine T2 (hK _ _ _ ?_);clear hK K;refine CF rfl ?_;refine aC fun K hK=>Rg ?_;iterate 5 refine S0 ?_ (e:=fun _ h_=>by simp only[sH,↓sP,sA,tyS,simprocAttr,A0,A4,hlt,hgd,hd42];exact AX h_)
   refine T2 (hK _ _ _ ?_);clear hK K;refine CT rfl ?_;refine Rg ?_;have F:=aI @A3.{0} @A2.{0,0};iterate 5 refine SF ?_
   refine T2 (hK _ _ _ ?_);clear hK K;refine aL (by kernel_rfl) ?_;refine TQ hw1 ?_;refine⟨⟨(i+1,out++[⟨2,0⟩]),hst.step (k:=1) (by omega) (by omega) (by simp) (aL0 hlt h42 fun h=>absurd h hi1)⟩,aP (by omega) ?_ ?_,?_⟩
   · simp
   · simp only[dC,C5];exact⟨rfl,by omega,trivial,trivial⟩
   show p.length-(i+1)<p.length-i;omega
  have hd42:((p[i].toNat:Int)==42)=false:=by rw[show(42:Int)=((42:UInt8).toNat:Int)from rfl,bP7];simpa using h42
  refine aC fun K hK=>Rg ?_;iterate 19 refine S0 ?_ (e:=fun _ h_=>by simp only[sH,↓sP,sA,tyS,simprocAttr,A0,A4,hlt,hgd,hw1,hd42];exact AX h_)
  refine T2 (hK _ _ _ ?_);clear hK K;refine CF rfl ?_;refine aC fun K hK=>Rg ?_;iterate 5 refine S0 ?_ (e:=fun _ h_=>by simp only[sH,↓sP,sA,tyS,simprocAttr,A0,A4,hlt,hgd,hd42];exact AX h_)
  refine T2 (hK _ _ _ ?_);clear hK K;refine CF rfl ?_;refine Rg ?_;iterate 8 refine S0 ?_ (e:=fun _ h_=>by simp only[sH,↓sP,sA,tyS,simprocAttr,A0,A4,hlt,hgd,A3,A2];exact AX h_)
  refine T2 (hK _ _ _ ?_);clear hK K;refine aL (by kernel_rfl) ?_;refine TQ hw1 ?_;refine⟨⟨(i+1,out++[⟨0,p[i]⟩]),hst.step (k:=1) (by omega) (by omega) (by simp) (bX0 hlt (hz i hlt) h92 h63 h42)⟩,aP (by omega) ?_ ?_,?_⟩
  · simp
  · simp only[dC,C5];exact⟨rfl,by omega,trivial,trivial⟩
  show p.length-(i+1)<p.length-i;omega
 refine bG (T3 ?_);clear hK K;refine AX (hK _ _ _ ?_);clear hK K;have hei:i=p.length:=by simp at hb;omega
 have hfin:fN p=some out:=by rw[hpv];exact hst.fin hei
 refine R0 ?_;refine aE (RT Tryz.results85 ?_);refine aO [68] (.slc (out.map Pt.cv)) (.bool true) ?_ ⟨by rw[hfin];rfl,by rw[hfin];rfl⟩;simp[denilL_Pt]
theorem cL3 (p:aH):gB Tryz.prog 67 [.str p] (fun u v=>u= .slc (((fN p).getD []).map Pt.cv)∧v= .bool (fN p).isSome):=by
 refine FW Tryz.func67 ?_;refine R0 ?_;refine aC fun K hK=>?_;refine aC fun K hK=>Rg ?_;iterate 3 refine S0 ?_
 refine aG 8 rfl (fun h1_8=>?_) (fun h1_8=>?_)
 ·
  have F:=h1_8;iterate 4 refine SF ?_
  refine T2 (hK _ _ _ ?_);clear hK K;refine CT rfl ?_;refine R0 ?_;refine aE (RT Tryz.results67 ?_);have hn:fN p=none:=by
   have:p=[]:=by simpa using h1_8
   exact tQ (.inl (by rw[this];simp))
  refine aO [] (.slc []) (.bool false) ?_ ⟨by rw[hn];rfl,by rw[hn];rfl⟩;simp
 have F:=h1_8;iterate 4 refine SF ?_
 refine aG 12 rfl (fun h1_12=>?_) (fun h1_12=>?_)
 ·
  simp only[h1_12];refine T2 (hK _ _ _ ?_);clear hK K;refine CT rfl ?_;refine R0 ?_;refine aE (RT Tryz.results67 ?_);have hn:fN p=none:=by exact tQ (by simp at h1_12;omega)
  refine aO [] (.slc []) (.bool false) ?_ ⟨by rw[hn];rfl,by rw[hn];rfl⟩;simp
 simp only[h1_12];refine T2 (hK _ _ _ ?_);clear hK K;refine CF rfl ?_;refine aJ ?_;refine T0 (hK _ _ _ ?_);clear hK K;have hpl:1≤p.length:=J0.2 (by simpa using h1_8);have hl:p.length≤200:=by simp at h1_12;omega
 have hpv:=aM8 hpl hl;clear h1_8 h1_12;refine R0 ?_;refine aC fun K hK=>?_;refine R0 ?_;refine aM ?_;refine iN 4 0 141 2 rfl rfl rfl rfl ?_;refine bN (α:={y:Nat×List Pt//PatSt p y.1 y.2}) (fun y=>(fin [(0,.c (.str p)),(4,.own 44 y.1.2.length),(5,.c (.int .i64 y.1.1))],fob [(44,.row 141 2 (y.1.2.map Pt.cv))])) 100 (fun y=>p.length-y.1.1) ⟨(0,[]),PatSt.init p⟩ (fF) ?_;rintro⟨⟨i,out⟩,hst⟩;simp only at hst;have hi:=hst.1;have ho:=hst.2.2.1;refine aC fun K hK=>?_;refine aC fun K hK=>Rg ?_;iterate 4 refine S0 ?_
 refine T2 (hK _ _ _ ?_);clear hK K;refine aF (b:=decide ((i:Int)<p.length)) rfl (fun hb=>?_) (fun hb=>?_)
 ·
  have hlt:i<p.length:=by simpa using hb
  clear hb;have hgd:p.getD i 0=p[i]:=by simp[hlt]
  have hw1:IntKind.i64.wrap ((i:Int)+1)=((i+1:Nat):Int):=by rw[A8 _ (by omega)];rfl
  have hw2:IntKind.i64.wrap (((i+1:Nat):Int)+1)=((i+2:Nat):Int):=by rw[A8 _ (by omega)];rfl
  refine aJ ?_;refine T0 (hK _ _ _ ?_);clear hK K;refine aC fun K hK=>?_;refine aM ?_;refine aC fun K hK=>Rg ?_;iterate 4 refine S0 ?_ (e:=fun _ h_=>by simp only[sH,↓sP,sA,tyS,simprocAttr,A0,A4,hlt,hgd];exact AX h_)
  refine T2 (hK _ _ _ ?_);clear hK K;refine aC fun K hK=>?_;refine R0 ?_;refine aF (b:=((p[i].toNat:Int)==0)) rfl (fun hb=>?_) (fun hb=>?_)
  ·
   have h0:p[i]=0:=bEq (d:=0) hb;refine R0 ?_;refine aE (RT Tryz.results67 ?_);have hn:fN p=none:=by rw[hpv];exact hst.bad (aS7 hlt h0)
   refine aO [] (.slc []) (.bool false) ?_ ⟨by rw[hn];rfl,by rw[hn];rfl⟩;simp
  have h0:p[i]≠0:=bNe (d:=0) hb;clear hb;refine aJ ?_;refine T0 (hK _ _ _ ?_);clear hK K;refine R0 ?_;refine aM ?_;refine R0 ?_;refine aF (b:=((p[i].toNat:Int)==92)) rfl (fun hb=>?_) (fun hb=>?_)
  ·
   have h92:p[i]=92:=bEq (d:=92) hb;clear hb;refine aC fun K hK=>?_;by_cases hi1:i+1<p.length
   ·
    by_cases h10:p[i+1]=0
    ·
     have hne:((((i+1:Nat):Int))==((p.length:Nat):Int))=false:=by rw[I0];omega
     have hg1:p.getD (i+1) 0=p[i+1]:=by simp[hi1]
     have hd0:((p[i+1].toNat:Int)==0)=true:=by rw[h10];rfl
     refine aC fun K hK=>Rg ?_;iterate 12 refine S0 ?_ (e:=fun _ h_=>by simp only[sH,↓sP,sA,tyS,simprocAttr,A0,A4,hlt,hgd,hw1,hne,hi1,hg1,hd0];exact AX h_)
     refine T2 (hK _ _ _ ?_);clear hK K;refine CT rfl ?_;refine R0 ?_;refine aE (RT Tryz.results67 ?_);have hn:fN p=none:=by rw[hpv];exact hst.bad (bO4 hi1 h92 h10)
     refine aO [] (.slc []) (.bool false) ?_ ⟨by rw[hn];rfl,by rw[hn];rfl⟩;simp
    have hne:((((i+1:Nat):Int))==((p.length:Nat):Int))=false:=by rw[I0];omega
    have hg1:p.getD (i+1) 0=p[i+1]:=by simp[hi1]
    have hd0:((p[i+1].toNat:Int)==0)=false:=by rw[show(0:Int)=((0:UInt8).toNat:Int)from rfl,bP7];simpa using h10
    refine aC fun K hK=>Rg ?_;iterate 12 refine S0 ?_ (e:=fun _ h_=>by simp only[sH,↓sP,sA,tyS,simprocAttr,A0,A4,hlt,hgd,hw1,hne,hi1,hg1,hd0];exact AX h_)
    refine T2 (hK _ _ _ ?_);clear hK K;refine CF rfl ?_;refine aJ ?_;refine T0 (hK _ _ _ ?_);clear hK K;have F:=hw1;refine RF ?_;refine Rg ?_;iterate 8 refine S0 ?_ (e:=fun _ h_=>by simp only[sH,↓sP,sA,tyS,simprocAttr,A0,A4,hlt,hgd,hi1,hg1,A3,A2];exact AX h_)
    refine T2 (hK _ _ _ ?_);clear hK K;refine aL (by kernel_rfl) ?_;refine TQ hw2 ?_;refine⟨⟨(i+2,out++[⟨0,p[i+1]⟩]),hst.step (k:=2) (by omega) (by omega) (by simp) (aS6 hi1 h92 h10)⟩,aP (by omega) ?_ ?_,?_⟩
    · simp
    · simp only[dC,C5];exact⟨rfl,by omega,trivial,trivial⟩
    show p.length-(i+2)<p.length-i;omega
   have hie:i+1=p.length:=by omega
   have hne:((((i+1:Nat):Int))==((p.length:Nat):Int))=true:=by rw[hie];simp
   refine aC fun K hK=>Rg ?_;iterate 12 refine S0 ?_ (e:=fun _ h_=>by simp only[sH,↓sP,sA,tyS,simprocAttr,A0,A4,hlt,hgd,hw1,hne];exact AX h_)
   refine T2 (hK _ _ _ ?_);clear hK K;refine CT rfl ?_;refine R0 ?_;refine aE (RT Tryz.results67 ?_);have hn:fN p=none:=by rw[hpv];exact hst.bad (aE1 hlt h92 hie)
   refine aO [] (.slc []) (.bool false) ?_ ⟨by rw[hn];rfl,by rw[hn];rfl⟩;simp
  have h92:p[i]≠92:=bNe (d:=92) hb;clear hb;refine R0 ?_;refine aF (b:=((p[i].toNat:Int)==42)) rfl (fun hb=>?_) (fun hb=>?_)
  ·
   have h42:p[i]=42:=bEq (d:=42) hb;clear hb;by_cases hi1:i+1<p.length
   ·
    by_cases h43:p[i+1]=42
    ·
     have hg1:p.getD (i+1) 0=p[i+1]:=by simp[hi1]
     have hd43:((p[i+1].toNat:Int)==42)=true:=by rw[h43];rfl
     refine aC fun K hK=>Rg ?_;iterate 12 refine S0 ?_ (e:=fun _ h_=>by simp only[sH,↓sP,sA,tyS,simprocAttr,A0,A4,hlt,hgd,hw1,hi1,hg1,hd43,Y5];exact AX h_)
     refine T2 (hK _ _ _ ?_);clear hK K;refine CT rfl ?_;have F:=hw1;refine RF ?_;refine Rg ?_;have F:=aI @A3.{0} @A2.{0,0};iterate 5 refine SF ?_
     refine T2 (hK _ _ _ ?_);clear hK K;refine aL (by kernel_rfl) ?_;refine TQ hw2 ?_;refine⟨⟨(i+2,out++[⟨3,0⟩]),hst.step (k:=2) (by omega) (by omega) (by simp) (bH8 hi1 h42 h43)⟩,aP (by omega) ?_ ?_,?_⟩
     · simp
     · simp only[dC,C5];exact⟨rfl,by omega,trivial,trivial⟩
     show p.length-(i+2)<p.length-i;omega
    have hg1:p.getD (i+1) 0=p[i+1]:=by simp[hi1]
    have hd43:((p[i+1].toNat:Int)==42)=false:=by rw[show(42:Int)=((42:UInt8).toNat:Int)from rfl,bP7];simpa using h43
    refine aC fun K hK=>Rg ?_;iterate 12 refine S0 ?_ (e:=fun _ h_=>by simp only[sH,↓sP,sA,tyS,simprocAttr,A0,A4,hlt,hgd,hw1,hi1,hg1,hd43,Y5];exact AX h_)
    refine T2 (hK _ _ _ ?_);clear hK K;refine CF rfl ?_;refine Rg ?_;have F:=aI @A3.{0} @A2.{0,0};iterate 5 refine SF ?_
    refine T2 (hK _ _ _ ?_);clear hK K;refine aL (by kernel_rfl) ?_;refine TQ hw1 ?_;refine⟨⟨(i+1,out++[⟨2,0⟩]),hst.step (k:=1) (by omega) (by omega) (by simp) (aL0 hlt h42 fun _=>h43)⟩,aP (by omega) ?_ ?_,?_⟩
    · simp
    · simp only[dC,C5];exact⟨rfl,by omega,trivial,trivial⟩
    show p.length-(i+1)<p.length-i;omega
   have hdi:decide (((i+1:Nat):Int)<((p.length:Nat):Int))=false:=by simp;omega
   refine aC fun K hK=>Rg ?_;have F:=aI hw1 hdi;iterate 12 refine SF ?_
   refine T2 (hK _ _ _ ?_);clear hK K;refine CF rfl ?_;refine Rg ?_;have F:=aI @A3.{0} @A2.{0,0};iterate 5 refine SF ?_
   refine T2 (hK _ _ _ ?_);clear hK K;refine aL (by kernel_rfl) ?_;refine TQ hw1 ?_;refine⟨⟨(i+1,out++[⟨2,0⟩]),hst.step (k:=1) (by omega) (by omega) (by simp) (aL0 hlt h42 fun h=>absurd h hi1)⟩,aP (by omega) ?_ ?_,?_⟩
   · simp
   · simp only[dC,C5];exact⟨rfl,by omega,trivial,trivial⟩
   show p.length-(i+1)<p.length-i;omega
  have h42:p[i]≠42:=bNe (d:=42) hb;clear hb;refine R0 ?_;refine aF (b:=((p[i].toNat:Int)==63)) rfl (fun hb=>?_) (fun hb=>?_)
  ·
   have h63:p[i]=63:=bEq (d:=63) hb;clear hb;refine Rg ?_;have F:=aI @A3.{0} @A2.{0,0};iterate 5 refine SF ?_
   refine T2 (hK _ _ _ ?_);clear hK K;refine aL (by kernel_rfl) ?_;refine TQ hw1 ?_;refine⟨⟨(i+1,out++[⟨1,0⟩]),hst.step (k:=1) (by omega) (by omega) (by simp) (bW9 hlt h63)⟩,aP (by omega) ?_ ?_,?_⟩
   · simp
   · simp only[dC,C5];exact⟨rfl,by omega,trivial,trivial⟩
   show p.length-(i+1)<p.length-i;omega
  have h63:p[i]≠63:=bNe (d:=63) hb;clear hb;refine Rg ?_;iterate 6 refine S0 ?_ (e:=fun _ h_=>by simp only[sH,↓sP,sA,tyS,simprocAttr,A0,A4,hlt,hgd,A3,A2];exact AX h_)
  refine T2 (hK _ _ _ ?_);clear hK K;refine aL (by kernel_rfl) ?_;refine TQ hw1 ?_;refine⟨⟨(i+1,out++[⟨0,p[i]⟩]),hst.step (k:=1) (by omega) (by omega) (by simp) (bX0 hlt h0 h92 h63 h42)⟩,aP (by omega) ?_ ?_,?_⟩
  · simp
  · simp only[dC,C5];exact⟨rfl,by omega,trivial,trivial⟩
  show p.length-(i+1)<p.length-i;omega
 refine bG (T3 ?_);clear hK K;refine AX (hK _ _ _ ?_);clear hK K;have hei:i=p.length:=by simp at hb;omega
 have hfin:fN p=some out:=by rw[hpv];exact hst.fin hei
 refine R0 ?_;refine aE (RT Tryz.results67 ?_);refine aO [44] (.slc (out.map Pt.cv)) (.bool true) ?_ ⟨by rw[hfin];rfl,by rw[hfin];rfl⟩;simp[denilL_Pt]
end Go.Proofs.YtlgckianjabghaaGreatDoor
namespace Go.Pl
open Go Go.Hl
def tR (c:UInt8)(l:aH):aH:=match l.findIdx? (· ==c)with|some i=>l.take i|none=>l
def zN (c:UInt8)(l:aH):aH:=match l.findIdx? (· ==c)with|some i=>l.drop (i+1)|none=>[]
def wY (c:UInt8)(l:aH):Bool:=(l.findIdx? (· ==c)).isSome
variable {l:aH}{c:UInt8}
theorem tS {i:Nat}(h:eD l c=(i:Int)):i<l.length∧tR c l=l.take i∧zN c l=l.drop (i+1)∧wY c l=true:=by
 unfold eD at h;cases e:l.findIdx? (· ==c)with
 |none=>grind
 |some j=>
  grind[List.findIdx?_eq_some_iff_getElem,tR,zN,wY]
theorem tT (h:eD l c<0):tR c l=l∧zN c l=[]∧wY c l=false:=by grind[eD,tR,zN,wY]
theorem aG8 (c:UInt8)(l:aH):aQ c l=if wY c l then tR c l::aQ c (zN c l)else [tR c l]:=by
 by_cases h:eD l c<0;all_goals grind[tT,oS,eT,tS]
theorem aW4 (h:wY c l=true):(zN c l).length<l.length:=by
 by_cases h0:eD l c<0
 · simp_all[tT]
 · obtain⟨i,hi,hil,_⟩:=eT h0;rw[(tS hi).2.2.1];grind
def PathSt (p:aH)(m:Bool)(s:aH):Prop:=s.length≤200∧(aQ 47 p).all lR=if m then(aQ 47 s).all lR else true
variable {p:aH}
theorem PathSt.step {s:aH}(h:PathSt p true s)(hg:lR (tR 47 s)=true):PathSt p (wY 47 s) (zN 47 s):=by
 refine⟨?_,?_⟩
 ·
  cases hf:wY 47 s with
  |true=>have:=aW4 hf;have:=h.1;omega
  |false=>
   by_cases h0:eD s 47<0;all_goals grind[tT,eT,tS]
 · rw[h.2,B6 rfl,aG8 47 s];grind
theorem PathSt.bad {s:aH}(h:PathSt p true s)(hg:lR (tR 47 s)=false):(aQ 47 p).all lR=false:=by
 rw[h.2,B6 rfl,aG8 47 s];grind
theorem cB0 (h1:1≤p.length)(h2:p.length≤200)(h0:(0:UInt8)∉p):lS p=(aQ 47 p).all lR:=by grind[lS]
theorem aG9 (h:p.length<1∨200<p.length):lS p=false:=by grind[lS,decide_eq_false]
theorem bD7 (h:(0:UInt8)∈p):lS p=false:=by
 unfold lS;grind
variable {w:aH}
theorem zO (h:w=[]∨w=[46]∨w=[46,46]):lR w=false:=by
 rcases h with h|h|h<;>subst h<;>rfl
theorem bR1 (h1:w≠[])(h2:w≠[46])(h3:w≠[46,46]):lR w=true:=by grind[lR]
end Go.Pl
namespace Go.Proofs.YtlgckianjabghaaGreatDoor
open Go Go.Hl Go.Pl
theorem cB1 (l:aH)(c:UInt8)(hl:l.length<2^40):yN Tryz.prog 121 [.str l,.str [c]] (fun u v x=>u= .str (tR c l)∧v= .str (zN c l)∧x= .bool (wY c l)):=by
 refine FW Tryz.func121 ?_;refine R0 ?_;refine aC fun K hK=>?_;refine AU ?_;refine SC (yY l c) ?_;refine AU ?_;refine aF (b:=decide ((0:Int)≤eD l c)) rfl (fun hb=>?_) (fun hb=>?_)
 ·
  have hn: ¬eD l c<0:=by simp at hb;omega
  obtain⟨i,hi,hil,hsp⟩:=eT hn;obtain⟨_,c1,c2,c3⟩:=tS hi;have htd:List.take (l.length-(i+1)) (List.drop (i+1) l)=List.drop (i+1) l:=E6 (by simp);have hil1:i+1≤l.length:=hil;have hil0:i≤l.length:=by omega
  rw[hi];refine aC fun K hK=>QR ?_;have F:=aI @A0 (aI @H2 (aI @Int.sub_zero (aI @G8 (aI @L7.{0} (aI hil0 (aI hil1 (aI htd (show IntKind.i64.wrap ((i:Int)+1)=((i+1:Nat):Int)from by rw[A8 _ (by omega)];rfl))))))));refine AU ?_;refine T2 (hK _ _ _ ?_);clear hK K;refine aE (RT Tryz.results121 ?_);exact dW [] (.str (l.take i)) (.str (l.drop (i+1))) (.bool true) rfl ⟨by rw[c1],by rw[c2],by rw[c3]⟩
 have hn:eD l c<0:=by simp at hb;omega
 obtain⟨c1,c2,c3⟩:=tT hn;refine aJ ?_;refine T0 (hK _ _ _ ?_);clear hK K;refine AU ?_;refine aE (RT Tryz.results121 ?_);exact dW [] (.str l) (.str []) (.bool false) rfl ⟨by rw[c1],by rw[c2],by rw[c3]⟩
theorem cL4 (l:aH)(c:UInt8)(hl:l.length<2^40):yN Tryz.prog 106 [.str l,.str [c]] (fun u v x=>u= .str (tR c l)∧v= .str (zN c l)∧x= .bool (wY c l)):=by
 refine FW Tryz.func106 ?_;refine R0 ?_;refine aC fun K hK=>Rg ?_;refine AU ?_;refine HS rfl rfl fun K' hK'=>T5 ?_;refine nN (args:=[_,_]) (cB1 l c hl) ⟨rfl,rfl,rfl,rfl⟩ ?_;rintro u v x ⟨rfl,rfl,rfl⟩;refine AX (hK' _ _ ?_);clear hK' K';refine AU ?_;refine T2 (hK _ _ _ ?_);clear hK K;refine aE (RT Tryz.results106 ?_);exact dW [] _ _ _ rfl ⟨rfl,rfl,rfl⟩
theorem bJ4 (p:aH):cG Tryz.prog 60 [.str p] (fun v=>v= .bool (fN p).isSome):=by
 refine FW Tryz.func60 ?_;refine R0 ?_;refine aC fun K hK=>Rg ?_;refine S0 ?_;refine HS rfl rfl fun K' hK'=>T5 ?_;refine D1 (aW3 p) ?_;rintro u v ⟨rfl,rfl⟩;refine AX (hK' _ _ ?_);clear hK' K';refine AU ?_;refine T2 (hK _ _ _ ?_);clear hK K;refine R0 ?_;refine aE (RT Tryz.results60 ?_);exact aK [] _ rfl rfl
theorem aW5 (p:aH):cG Tryz.prog 37 [.str p] (fun v=>v= .bool (fN p).isSome):=by
 refine FW Tryz.func37 ?_;refine R0 ?_;refine aC fun K hK=>Rg ?_;refine S0 ?_;refine HS rfl rfl fun K' hK'=>T5 ?_;refine D1 (cL3 p) ?_;rintro u v ⟨rfl,rfl⟩;refine AX (hK' _ _ ?_);clear hK' K';refine AU ?_;refine T2 (hK _ _ _ ?_);clear hK K;refine R0 ?_;refine aE (RT Tryz.results37 ?_);exact aK [] _ rfl rfl
theorem bJ5 (p:aH):cG Tryz.prog 87 [.str p] (fun v=>v= .bool (lS p)):=by
 refine FW Tryz.func87 ?_;refine R0 ?_;refine aC fun K hK=>?_;refine aC fun K hK=>Rg ?_;iterate 4 refine S0 ?_
 refine aG 7 rfl (fun h1_7=>?_) (fun h1_7=>?_)
 ·
  have F:=h1_7;iterate 9 refine SF ?_
  refine T2 (hK _ _ _ ?_);clear hK K;refine CT rfl ?_;refine R0 ?_;refine aE (RT Tryz.results87 ?_);exact aK [] (.bool false) rfl (by rw[aG9 (by simp at h1_7;omega)])
 have F:=h1_7;iterate 5 refine SF ?_
 refine aG 11 rfl (fun h1_11=>?_) (fun h1_11=>?_)
 ·
  clear F;have F:=aI h1_7 h1_11;iterate 4 refine SF ?_
  refine T2 (hK _ _ _ ?_);clear hK K;refine CT rfl ?_;refine R0 ?_;refine aE (RT Tryz.results87 ?_);exact aK [] (.bool false) rfl (by rw[aG9 (by simp at h1_11;omega)])
 clear F;have F:=aI h1_7 h1_11;refine SF ?_;refine aW (g:=some (13,false)) rfl rfl fun K' hK'=>T6 ?_;refine C2 (tI p 0) ?_;rintro u rfl;refine AX (hK' _ _ ?_);clear hK' K';iterate 2 refine SF ?_
 refine aG 16 rfl (fun h1_16=>?_) (fun h1_16=>?_)
 · simp only[h1_16];refine T2 (hK _ _ _ ?_);clear hK K;refine CT rfl ?_;refine R0 ?_;refine aE (RT Tryz.results87 ?_);exact aK [] (.bool false) rfl (by rw[bD7 (aW2 (by simpa using h1_16))])
 simp only[h1_16];refine T2 (hK _ _ _ ?_);clear hK K;refine CF rfl ?_;refine aJ ?_;refine T0 (hK _ _ _ ?_);clear hK K;refine aC fun K hK=>?_;have hl:p.length≤200:=by simp at h1_11;omega
 have hpv:=cB0 (p:=p) (by simp at h1_7;omega) hl (wM (by simpa using h1_16));clear h1_7 h1_11 h1_16;refine R0 ?_;refine aM ?_;refine bN (α:={y:Bool×aH//PathSt p y.1 y.2}) (fun y=>(fin [(0,.c (.str y.1.2)),(3,.c (.bool y.1.1))],fob [])) 100 (fun y=>if y.1.1 then y.1.2.length+1 else 0) ⟨(true,p),hl,by simp⟩ (fF) ?_;rintro⟨⟨m,s⟩,hst⟩;simp only at hst;have hs:=hst.1;refine aC fun K hK=>?_;refine R0 ?_;refine aF (b:=m) rfl (fun hb=>?_) (fun hb=>?_)
 ·
  subst hb;refine aJ ?_;refine T0 (hK _ _ _ ?_);clear hK K;refine aM ?_;refine R0 ?_;refine aC fun K hK=>Rg ?_;refine S0 ?_;refine HS rfl rfl fun K' hK'=>T5 ?_;refine nN (args:=[_,_]) (cL4 s 47 (by omega)) ⟨rfl,rfl,rfl,rfl⟩ ?_;rintro u v x ⟨rfl,rfl,rfl⟩;refine AX (hK' _ _ ?_);clear hK' K';iterate 7 refine S0 ?_
  refine T2 (hK _ _ _ ?_);clear hK K;refine aC fun K hK=>Rg ?_;iterate 3 refine S0 ?_
  refine aG 26 rfl (fun h7_26=>?_) (fun h7_26=>?_)
  ·
   clear F;have F:=h7_26;iterate 7 refine SF ?_
   refine T2 (hK _ _ _ ?_);clear hK K;refine CT rfl ?_;refine R0 ?_;refine aE (RT Tryz.results87 ?_);have hg:lR (tR 47 s)=false:=zO (.inl (eq_of_beq h7_26));exact aK [] (.bool false) rfl (by rw[hpv,hst.bad hg])
  clear F;have F:=h7_26;iterate 4 refine SF ?_
  refine aG 29 rfl (fun h7_29=>?_) (fun h7_29=>?_)
  ·
   clear F;have F:=aI h7_26 h7_29;iterate 3 refine SF ?_
   refine T2 (hK _ _ _ ?_);clear hK K;refine CT rfl ?_;refine R0 ?_;refine aE (RT Tryz.results87 ?_);have hg:lR (tR 47 s)=false:=zO (.inr (.inl (eq_of_beq h7_29)));exact aK [] (.bool false) rfl (by rw[hpv,hst.bad hg])
  clear F;have F:=aI h7_26 h7_29;iterate 3 refine SF ?_
  refine aG 33 rfl (fun h7_33=>?_) (fun h7_33=>?_)
  · simp only[h7_33];refine T2 (hK _ _ _ ?_);clear hK K;refine CT rfl ?_;refine R0 ?_;refine aE (RT Tryz.results87 ?_);have hg:lR (tR 47 s)=false:=zO (.inr (.inr (eq_of_beq h7_33)));exact aK [] (.bool false) rfl (by rw[hpv,hst.bad hg])
  simp only[h7_33];refine T2 (hK _ _ _ ?_);clear hK K;refine CF rfl ?_;refine aJ (T3 ?_);have hg:lR (tR 47 s)=true:=bR1 (by simpa using h7_26) (by simpa using h7_29) (by simpa using h7_33);refine⟨⟨(wY 47 s,zN 47 s),hst.step hg⟩,fF,?_⟩;show(if wY 47 s=true then(zN 47 s).length+1 else 0)<if true=true then s.length+1 else 0
  rw[B6 rfl];split
  · rename_i h;have:=aW4 h;omega
  omega
 subst hb;refine bG (T3 ?_);clear hK K;refine AX (hK _ _ _ ?_);clear hK K;refine R0 ?_;refine aE (RT Tryz.results87 ?_);exact aK [] (.bool true) rfl (by rw[hpv,hst.2];rfl)
theorem dC5 :lst []=dK:=by funext j;simp[lst,dK]
theorem cL5 (x:Pt)(c:UInt8):cX4 Tryz.prog 107 138 x.cv [u8 c] (fun v=>v= .bool (c==x.c)):=by
 show HFn _ _ [.c (u8 c),.ptr 0 0] 1 _ _;refine cA (args:=[.c (u8 c),.ptr 0 0]) Tryz.func107 rfl (by kernel_rfl) (aD9 _ _ [u8 c]) (C4 rfl) ?_;refine R0 ?_;refine RS ?_;have F:=aI @Pt.get_c @bP7;refine AU ?_;refine aE (RT Tryz.results107 ?_);refine bB4 [] (.bool (c==x.c)) x.cv rfl rfl (by simp[Pt.denil]) (by simp) rfl rfl
theorem bR2 (x:Pt)(hk:x.k=0):HGe Tryz.prog 88 [.c x.cv] [] (fun r os=>r= .clo 107 [.ptr 0 0]∧os=[.box 138 (.c x.cv)]):=by
 show HFn _ _ [.c x.cv] 0 (lst []) _;rw[dC5];refine cA (args:=[.c x.cv]) Tryz.func88 rfl (by kernel_rfl) (kR [x.cv]) (C4 rfl) ?_;have hd0:((x.k:Int)==0)=true:=by rw[hk];rfl
 have F:=aI @Pt.cells (aI @Pt.isAgg @Pt.getAll);refine RF ?_;refine aC fun K hK=>?_;have F:=@Pt.get_k;refine RF ?_;refine aM ?_;have F:=hd0;refine RF ?_;refine CT rfl ?_;refine R0 ?_;refine aE (RT Tryz.results88 ?_);refine dS [] [0] (.clo 107 [.ptr 0 0]) [.box 138 (.c x.cv)] rfl ?_ ?_ rfl (by simp) (by simp) (by simp) ⟨rfl,rfl⟩
 · simp
 refine⟨⟨by simp,by simp,.box 138 (.c x.cv),rfl,?_⟩,trivial⟩;simp[fC,Pt.denil]
theorem bR3 (x:Pt)(hk:x.k=3):cG Tryz.prog 88 [x.cv] (fun v=>v= .fn 108):=by
 refine FW Tryz.func88 ?_;have hd0:((x.k:Int)==0)=false:=by rw[hk];rfl
 have hd3:((x.k:Int)==3)=true:=by rw[hk];rfl
 have F:=aI @Pt.cells (aI @Pt.isAgg @Pt.getAll);refine RF ?_;refine aC fun K hK=>?_;have F:=@Pt.get_k;refine RF ?_;refine aM ?_;have F:=hd0;refine RF ?_;refine CF rfl ?_;have F:=hd3;refine RF ?_;refine CT rfl ?_;refine R0 ?_;refine aE (RT Tryz.results88 ?_);exact aK [] (.fn 108) rfl rfl
theorem aH0 (x:Pt)(hk:x.k=1∨x.k=2):cG Tryz.prog 88 [x.cv] (fun v=>v= .fn 109):=by
 refine FW Tryz.func88 ?_;have hd0:((x.k:Int)==0)=false:=by rcases hk with h|h<;>rw[h]<;>rfl
 have hd3:((x.k:Int)==3)=false:=by rcases hk with h|h<;>rw[h]<;>rfl
 have F:=aI @Pt.cells (aI @Pt.isAgg @Pt.getAll);refine RF ?_;refine aC fun K hK=>?_;have F:=@Pt.get_k;refine RF ?_;refine aM ?_;have F:=hd0;refine RF ?_;refine CF rfl ?_;have F:=hd3;refine RF ?_;refine CF rfl ?_;refine aJ ?_;refine T0 (hK _ _ _ ?_);clear hK K;refine R0 ?_;refine aE (RT Tryz.results88 ?_);exact aK [] (.fn 109) rfl rfl
end Go.Proofs.YtlgckianjabghaaGreatDoor
namespace Go.Pl
open Go Go.Hl
variable {ps:List Pt}{p:aH}
theorem bR4 (h:fN p=some ps):ps.length≤200∧ ∀x∈ps,x.k≤3:=by
 unfold fN at h;split at h
 · cases h
 · rename_i hl;obtain⟨h1,h2⟩:=bH7 p.length p ps (F2 _) h;grind
variable {s:aH}
theorem aW6 (h:fN p=none):nL p s=false:=by unfold nL;rw[h]
theorem aW7 (h:lS s=false):nL p s=false:=by grind[nL]
theorem aW8 (h:fN p=some ps)(hs:lS s=true):nL p s=mD ps s ps.length s.length:=by grind[nL]
theorem bR5 (h:lS s=true):s.length≤200:=by simp_all[lS,A6,B9]
def cN (n:Nat)(f:Nat→Bool):List CV:=(tab n f).map bC1
theorem bI (n:Nat)(f:Nat→Bool):(cN n f).length=n:=by simp[cN,nS]
variable {i n:Nat}
theorem bK {f:Nat→Bool}(h:i<n):nth (cN n f) i= .bool (f i):=cJ9 h
theorem bR6 (n:Nat):List.replicate n (CV.bool false)=cN n (fun _=>false):=by
 unfold cN;rw[←bP6];simp[bC1]
theorem zP (n:Nat)(f:Nat→Bool)(i:Nat)(b:Bool):(cN n f).set i (.bool b)=cN n (fun j=>if j=i then b else f j):=by
 unfold cN;rw[←cJ8,N4];rfl
theorem jY (n:Nat)(f:Nat→Bool):CV.denilL (cN n f)=cN n f:=cX (fun x=>by simp[bC1,CV.denil]) _
theorem bR7 {ps:List Pt}{s:aH}:(cN n (fun _=>false)).set 0 (.bool true)=cN n (fun j=>if j=0 then true else false):=zP _ _ _ _
variable {b:Bool}{k:Nat}
theorem jZ (hb:b=(mD ps s k 0&&(prt ps k).long)):(cN n (fun _=>false)).set 0 (.bool b)=cN n (nxt ps s k 0):=by
 rw[zP,hb];congr 1;grind[bY1]
theorem iE (hb:b=mD ps s (k+1) (i+1)):(cN n (nxt ps s k i)).set (i+1) (.bool b)=cN n (nxt ps s k (i+1)):=by simp_all[zP,bY2]
theorem xH :cN (s.length+1) (nxt ps s k s.length)=cN (s.length+1) (mD ps s (k+1)):=by
 unfold cN;rw[cK0]
theorem cB2 :cN (s.length+1) (fun j=>if j=0 then true else false)=cN (s.length+1) (mD ps s 0):=by
 unfold cN;rw[bY3]
theorem cL6 (h:k<ps.length):prt ps k=ps[k]:=by simp[prt,h]
end Go.Pl
namespace Go.Proofs.YtlgckianjabghaaGreatDoor
open Go Go.Hl Go.Pl
theorem dU (ps:List Pt)(s:aH)(k i:Nat):nxt ps s k i i=mD ps s (k+1) i:=by simp[nxt]
theorem aW9 (p s:aH):cG Tryz.prog 65 [.str p,.str s] (fun v=>v= .bool (nL p s)):=by
 refine FW Tryz.func65 ?_;refine R0 ?_;refine aC fun K hK=>Rg ?_;refine S0 ?_;refine HS rfl rfl fun K' hK'=>T5 ?_;refine D1 (aW3 p) ?_;rintro u v ⟨rfl,rfl⟩;refine AX (hK' _ _ ?_);clear hK' K';iterate 5 refine S0 ?_
 refine T2 (hK _ _ _ ?_);clear hK K;refine aC fun K hK=>?_;cases hpv:fN p
 ·
  refine aC fun K hK=>Rg ?_;iterate 7 refine S0 ?_ (e:=fun _ h_=>by simp only[sH,↓sP,sA,tyS,simprocAttr,J9,D7];exact AX h_)
  refine T2 (hK _ _ _ ?_);clear hK K;refine CT rfl ?_;refine R0 ?_;refine aE (RT Tryz.results65 ?_);exact aK [] (.bool false) rfl (by rw[aW6 hpv])
 by_cases hs:lS s=true
 ·
  rename_i ps;have hs200:=bR5 hs;obtain⟨hpl,hpk⟩:=bR4 hpv;have hmv:=aW8 hpv hs;clear hpv;refine aC fun K hK=>Rg ?_;iterate 4 refine S0 ?_ (e:=fun _ h_=>by simp only[sH,↓sP,sA,tyS,simprocAttr,G2,D8,hs,E0];exact AX h_)
  refine aW (g:=some (20,false)) rfl rfl fun K' hK'=>?_;simp only[sH,↓sP,sA,tyS,simprocAttr,G2,D8,hs,E0];refine C1 (bJ5 s) ?_;rintro u rfl;refine AX (hK' _ _ ?_);clear hK' K';iterate 2 refine S0 ?_ (e:=fun _ h_=>by simp only[sH,↓sP,sA,tyS,simprocAttr,G2,D8,hs,E0];exact AX h_)
  refine T2 (hK _ _ _ ?_);clear hK K;refine CF rfl ?_;refine aJ ?_;refine T0 (hK _ _ _ ?_);clear hK K;have hwn:IntKind.i64.wrap ((s.length:Int)+1)=(((s.length+1:Nat)):Int):=by rw[A8 _ (by omega)];rfl
  have hn0:(((s.length+1:Nat):Int)=0)=False:=by simp;omega
  have hzn:(0:Int)<((s.length+1:Nat):Int):=by omega
  have hrep:=bR6 (s.length+1);refine aC fun K hK=>Rg ?_;have F:=aI hwn (aI hn0 (aI hrep @A5));iterate 5 refine SF ?_
  refine T2 (hK _ _ _ ?_);clear hK K;refine R0 ?_ (e:=fun _ h_=>by simp only[↓sP,sA,tyS,simprocAttr,hzn,bI,bK (L5 s.length),H3];exact AX h_);refine aC fun K hK=>?_;refine R0 ?_;refine aM ?_;have hr0:(cN (s.length+1) (fun _=>false)).set 0 (.bool true)=cN (s.length+1) (mD ps s 0):=(bR7 (ps:=ps) (s:=s)).trans cB2;refine cM [72] (bB (fr2:=fin [(1,.c (.str s)),(7,.c (.slc (cN (s.length+1) (mD ps s 0)))),(31,.c (.slc (ps.map Pt.cv))),(32,.c (.int .i64 ps.length)),(33,.c (.int .i64 0))]) (ob2:=fob []) (nx2:=90) (aP (by omega) (by simp[jY,denilL_Pt,hr0,bI]) (by simp)) ?_);refine bN (α:={k:Nat//k≤ps.length}) (fun k=>(fin [(1,.c (.str s)),(7,.c (.slc (cN (s.length+1) (mD ps s k.1)))),(31,.c (.slc (ps.map Pt.cv))),(32,.c (.int .i64 ps.length)),(33,.c (.int .i64 k.1))],fob [])) 100 (fun k=>ps.length-k.1) ⟨0,by omega⟩ (fF) ?_;rintro⟨k,hk⟩;refine R0 ?_;refine aC fun K hK=>?_;refine aF (b:=decide ((k:Int)<ps.length)) rfl (fun hb=>?_) (fun hb=>?_)
  ·
   have hlt:k<ps.length:=by simpa using hb
   clear hb;have hk3:=hpk _ (C0 hlt);have hprt:=cL6 hlt;refine aJ ?_;refine T0 (hK _ _ _ ?_);clear hK K;refine aC fun K hK=>?_;refine aM ?_;refine aC fun K hK=>Rg ?_;clear F;have F:=aI @A0 (aI @A4 (aI hlt (aI @A2.{0,0} (aI (nM hlt) (aI @Pt.cells (aI @Pt.isAgg (aI @Pt.getAll @Pt.setAll)))))));iterate 4 refine SF ?_
   refine T2 (hK _ _ _ ?_);clear hK K;by_cases h0:ps[k].k=0
   ·
    have hlong:ps[k].long=false:=by simp[Pt.long,h0]
    refine aC fun K hK=>Rg ?_;clear F;have F:=aI @Pt.cells (aI @Pt.isAgg @Pt.getAll);refine SF ?_;refine HS rfl rfl fun K' hK'=>T6 ?_;refine eG (largs:=[.c ps[k].cv]) [] (bR2 ps[k] h0) rfl trivial (by simp) (by simp) ⟨rfl,rfl,rfl,rfl⟩ trivial (by simp) ?_;rintro r os ⟨rfl,rfl⟩;simp only[HV.ren,HV.renL,jG,HO.ren,sub,E5,Q7,J2,G8,N0];refine AX (hK' _ _ ?_);clear hK' K';refine SF ?_;refine T2 (hK _ _ _ ?_);clear hK K;refine aC fun K hK=>Rg ?_;clear F;have F:=aI hwn (aI hn0 (aI hrep @A5));iterate 5 refine SF ?_
    refine T2 (hK _ _ _ ?_);clear hK K;refine aC fun K hK=>?_;have key: ∀fr ob nx,Fits 0 fr ob (fin [(1,.c (.str s)),(7,.c (.slc (cN (s.length+1) (mD ps s k)))),(9,.ptr 112 0),(10,.clo 107 [.ptr 124 0]),(11,.own 144 (s.length+1)),(31,.c (.slc (ps.map Pt.cv))),(32,.c (.int .i64 ps.length)),(33,.c (.int .i64 k))]) (fob [(112,.box 138 (.c ps[k].cv)),(124,.box 138 (.c ps[k].cv)),(144,.row 4 1 (cN (s.length+1) (nxt ps s k 0)))]) 250→K fr ob nx:=by
     rintro fr ob nx hf;refine hK _ _ _ (bB hf ?_);clear hf hK K;refine aC fun K hK=>?_;refine R0 ?_;refine aM ?_;refine bN (α:={i:Nat//i≤s.length}) (fun i=>(fin [(1,.c (.str s)),(7,.c (.slc (cN (s.length+1) (mD ps s k)))),(9,.ptr 112 0),(10,.clo 107 [.ptr 124 0]),(11,.own 144 (s.length+1)),(31,.c (.slc (ps.map Pt.cv))),(32,.c (.int .i64 ps.length)),(33,.c (.int .i64 k)),(53,.c (.int .i64 s.length)),(54,.c (.int .i64 i.1))],fob [(112,.box 138 (.c ps[k].cv)),(124,.box 138 (.c ps[k].cv)),(144,.row 4 1 (cN (s.length+1) (nxt ps s k i.1)))])) 300 (fun i=>s.length-i.1) ⟨0,by omega⟩ (fF) ?_;rintro⟨i,hi⟩;refine R0 ?_;refine aC fun K hK=>?_;refine aF (b:=decide ((i:Int)<s.length)) rfl (fun hb=>?_) (fun hb=>?_)
     ·
      have hil:i<s.length:=by simpa using hb
      clear hb;have hgd:s.getD i 0=s[i]:=by simp[hil]
      have hiN:i+1<s.length+1:=by omega
      have hiN0:i<s.length+1:=by omega
      have hw1:IntKind.i64.wrap ((i:Int)+1)=((i+1:Nat):Int):=by rw[A8 _ (by omega)];rfl
      refine aJ ?_;refine T0 (hK _ _ _ ?_);clear hK K;refine aC fun K hK=>?_;refine aM ?_;refine R0 ?_;refine aM ?_;refine aC fun K hK=>Rg ?_;clear F;have F:=aI @Pt.cells (aI @Pt.isAgg (aI @Pt.getAll hlong));refine SF ?_;refine HS rfl rfl fun K' hK'=>T6 ?_;refine C1 (gN ps[k] hk3) ?_;rintro u rfl;refine AX (hK' _ _ ?_);clear hK' K';refine SF ?_;refine T2 (hK _ _ _ ?_);clear hK K;refine CF rfl ?_;by_cases ha:mD ps s k i=true
      ·
       have htk:ps[k].takes s[i]=(s[i]==ps[k].c):=by simp[Pt.takes,h0]
       have hs1:(cN (s.length+1) (nxt ps s k i)).set (i+1) (.bool (s[i]==ps[k].c))=cN (s.length+1) (nxt ps s k (i+1)):=iE (by rw[rC,hprt,hlong,hgd];simp[ha,htk]);refine Rg ?_;iterate 12 refine S0 ?_ (e:=fun _ h_=>by simp only[sH,↓sP,sA,tyS,simprocAttr,A0,A4,hiN,hiN0,hil,hgd,hw1,bI,bK hiN,bK hiN0,dU,A5,ha];exact AX h_)
       refine aW (g:=some (64,true)) rfl rfl fun K' hK'=>?_;simp only[sH,↓sP,sA,tyS,simprocAttr,A0,A4,hiN,hiN0,hil,hgd,hw1,bI,bK hiN,bK hiN0,dU,A5,ha];refine bW0 (args:=[_]) (cL5 ps[k] s[i]) rfl (by simp) ⟨rfl,rfl,rfl,rfl⟩ ?_;rintro u rfl;refine AX (hK' _ _ ?_);clear hK' K';iterate 3 refine S0 ?_ (e:=fun _ h_=>by simp only[sH,↓sP,sA,tyS,simprocAttr,A0,A4,hiN,hiN0,hil,hgd,hw1,bI,bK hiN,bK hiN0,dU,A5,ha];exact AX h_)
       refine T2 (hK _ _ _ ?_);clear hK K;refine aL (by kernel_rfl) ?_;refine TQ hw1 ?_;refine⟨⟨i+1,hil⟩,aP (by omega) (by simp[bI]) (by simp[hs1]),?_⟩;show s.length-(i+1)<s.length-i;omega
      have ha:mD ps s k i=false:=by simpa using ha
      have htk:ps[k].takes s[i]=(s[i]==ps[k].c):=by simp[Pt.takes,h0]
      have hs1:(cN (s.length+1) (nxt ps s k i)).set (i+1) (.bool false)=cN (s.length+1) (nxt ps s k (i+1)):=iE (by rw[rC,hprt,hlong,hgd];simp[ha,htk]);refine Rg ?_;iterate 16 refine S0 ?_ (e:=fun _ h_=>by simp only[sH,↓sP,sA,tyS,simprocAttr,A0,A4,hiN,hiN0,hil,hgd,hw1,bI,bK hiN,bK hiN0,dU,A5,ha];exact AX h_)
      refine T2 (hK _ _ _ ?_);clear hK K;refine aL (by kernel_rfl) ?_;refine TQ hw1 ?_;refine⟨⟨i+1,hil⟩,aP (by omega) (by simp[bI]) (by simp[hs1]),?_⟩;show s.length-(i+1)<s.length-i;omega
     refine bG (T3 ?_);clear hK K;refine AX (hK _ _ _ ?_);clear hK K;refine aL (by kernel_rfl) ?_;refine T0 (hK _ _ _ ?_);clear hK K;have hei:i=s.length:=by simp at hb;omega
     subst hei;have hra:=xH (ps:=ps) (s:=s) (k:=k);refine cM [144] (bB (fr2:=fin [(1,.c (.str s)),(7,.c (.slc (cN (s.length+1) (mD ps s (k+1))))),(31,.c (.slc (ps.map Pt.cv))),(32,.c (.int .i64 ps.length)),(33,.c (.int .i64 k))]) (ob2:=fob []) (nx2:=900) (aP (by omega) (by simp[jY,denilL_Pt,hra,bI]) (by simp)) ?_);refine aL (by kernel_rfl) ?_;refine TQ (fS k) ?_;refine⟨⟨k+1,hlt⟩,fF,?_⟩;show ps.length-(k+1)<ps.length-k;omega
    by_cases hm:mD ps s k 0=true
    ·
     have hz:(cN (s.length+1) (fun _=>false)).set 0 (.bool false)=cN (s.length+1) (nxt ps s k 0):=jZ (by rw[hm,hprt,hlong];rfl);refine Rg ?_;iterate 6 refine S0 ?_ (e:=fun _ h_=>by simp only[sH,↓sP,sA,tyS,simprocAttr,hzn,bI,bK (L5 s.length),H3,hm,hlong,Pt.cells,Pt.isAgg,Pt.getAll];exact AX h_)
     refine aW (g:=some (47,true)) rfl rfl fun K' hK'=>?_;simp only[sH,↓sP,sA,tyS,simprocAttr,hzn,bI,bK (L5 s.length),H3,hm,hlong,Pt.cells,Pt.isAgg,Pt.getAll];refine C1 (gN ps[k] hk3) ?_;rintro u rfl;refine AX (hK' _ _ ?_);clear hK' K';iterate 3 refine S0 ?_ (e:=fun _ h_=>by simp only[sH,↓sP,sA,tyS,simprocAttr,hzn,bI,bK (L5 s.length),H3,hm,hlong,Pt.cells,Pt.isAgg,Pt.getAll];exact AX h_)
     refine T4 ?_;exact key _ _ _ (aP (by omega) (by simp[bI]) (by simp[hz]))
    have hm0:mD ps s k 0=false:=by simpa using hm
    have hz:(cN (s.length+1) (fun _=>false)).set 0 (.bool false)=cN (s.length+1) (nxt ps s k 0):=jZ (by rw[hm0];rfl);refine Rg ?_;iterate 10 refine S0 ?_ (e:=fun _ h_=>by simp only[sH,↓sP,sA,tyS,simprocAttr,hzn,bI,bK (L5 s.length),H3,hm0,Pt.cells,Pt.isAgg,Pt.getAll];exact AX h_)
    refine T4 ?_;exact key _ _ _ (aP (by omega) (by simp[bI]) (by simp[hz]))
   by_cases h3:ps[k].k=3
   ·
    have hlong:ps[k].long=true:=by simp[Pt.long,h3]
    refine aC fun K hK=>Rg ?_;clear F;have F:=aI @Pt.cells (aI @Pt.isAgg @Pt.getAll);refine SF ?_;refine HS rfl rfl fun K' hK'=>T6 ?_;refine C1 (bR3 ps[k] h3) ?_;rintro u rfl;refine AX (hK' _ _ ?_);clear hK' K';refine SF ?_;refine T2 (hK _ _ _ ?_);clear hK K;refine aC fun K hK=>Rg ?_;clear F;have F:=aI hwn (aI hn0 (aI hrep @A5));iterate 5 refine SF ?_
    refine T2 (hK _ _ _ ?_);clear hK K;refine aC fun K hK=>?_;have key: ∀fr ob nx,Fits 0 fr ob (fin [(1,.c (.str s)),(7,.c (.slc (cN (s.length+1) (mD ps s k)))),(9,.ptr 112 0),(10,.c (.fn 108)),(11,.own 144 (s.length+1)),(31,.c (.slc (ps.map Pt.cv))),(32,.c (.int .i64 ps.length)),(33,.c (.int .i64 k))]) (fob [(112,.box 138 (.c ps[k].cv)),(144,.row 4 1 (cN (s.length+1) (nxt ps s k 0)))]) 250→K fr ob nx:=by
     rintro fr ob nx hf;refine hK _ _ _ (bB hf ?_);clear hf hK K;refine aC fun K hK=>?_;refine R0 ?_;refine aM ?_;refine bN (α:={i:Nat//i≤s.length}) (fun i=>(fin [(1,.c (.str s)),(7,.c (.slc (cN (s.length+1) (mD ps s k)))),(9,.ptr 112 0),(10,.c (.fn 108)),(11,.own 144 (s.length+1)),(31,.c (.slc (ps.map Pt.cv))),(32,.c (.int .i64 ps.length)),(33,.c (.int .i64 k)),(53,.c (.int .i64 s.length)),(54,.c (.int .i64 i.1))],fob [(112,.box 138 (.c ps[k].cv)),(144,.row 4 1 (cN (s.length+1) (nxt ps s k i.1)))])) 300 (fun i=>s.length-i.1) ⟨0,by omega⟩ (fF) ?_;rintro⟨i,hi⟩;refine R0 ?_;refine aC fun K hK=>?_;refine aF (b:=decide ((i:Int)<s.length)) rfl (fun hb=>?_) (fun hb=>?_)
     ·
      have hil:i<s.length:=by simpa using hb
      clear hb;have hgd:s.getD i 0=s[i]:=by simp[hil]
      have hiN:i+1<s.length+1:=by omega
      have hiN0:i<s.length+1:=by omega
      have hw1:IntKind.i64.wrap ((i:Int)+1)=((i+1:Nat):Int):=by rw[A8 _ (by omega)];rfl
      refine aJ ?_;refine T0 (hK _ _ _ ?_);clear hK K;refine aC fun K hK=>?_;refine aM ?_;refine R0 ?_;refine aM ?_;refine aC fun K hK=>Rg ?_;clear F;have F:=aI @Pt.cells (aI @Pt.isAgg (aI @Pt.getAll hlong));refine SF ?_;refine HS rfl rfl fun K' hK'=>T6 ?_;refine C1 (gN ps[k] hk3) ?_;rintro u rfl;refine AX (hK' _ _ ?_);clear hK' K';refine SF ?_;refine T2 (hK _ _ _ ?_);clear hK K;refine CT rfl ?_;by_cases ha:mD ps s k (i+1)=true
      ·
       have htk:ps[k].takes s[i]=true:=by simp[Pt.takes,h3]
       have hs1:(cN (s.length+1) (nxt ps s k i)).set (i+1) (.bool true)=cN (s.length+1) (nxt ps s k (i+1)):=iE (by rw[rC,hprt,hlong,hgd];simp[ha,htk]);refine Rg ?_;iterate 23 refine S0 ?_ (e:=fun _ h_=>by simp only[sH,↓sP,sA,tyS,simprocAttr,A0,A4,hiN,hiN0,hil,hgd,hw1,bI,bK hiN,bK hiN0,dU,A5,ha];exact AX h_)
       refine T2 (hK _ _ _ ?_);clear hK K;refine aL (by kernel_rfl) ?_;refine TQ hw1 ?_;refine⟨⟨i+1,hil⟩,aP (by omega) (by simp[bI]) (by simp[hs1]),?_⟩;show s.length-(i+1)<s.length-i;omega
      by_cases hn:mD ps s (k+1) i=true
      ·
       have ha:mD ps s k (i+1)=false:=by simpa using ha
       have htk:ps[k].takes s[i]=true:=by simp[Pt.takes,h3]
       have hs1:(cN (s.length+1) (nxt ps s k i)).set (i+1) (.bool true)=cN (s.length+1) (nxt ps s k (i+1)):=iE (by rw[rC,hprt,hlong,hgd];simp[ha,hn,htk]);refine Rg ?_;iterate 18 refine S0 ?_ (e:=fun _ h_=>by simp only[sH,↓sP,sA,tyS,simprocAttr,A0,A4,hiN,hiN0,hil,hgd,hw1,bI,bK hiN,bK hiN0,dU,A5,ha,hn];exact AX h_)
       refine aW (g:=some (88,true)) rfl rfl fun K' hK'=>?_;simp only[sH,↓sP,sA,tyS,simprocAttr,A0,A4,hiN,hiN0,hil,hgd,hw1,bI,bK hiN,bK hiN0,dU,A5,ha,hn];refine C1 (cK1 s[i]) ?_;rintro u rfl;refine AX (hK' _ _ ?_);clear hK' K';iterate 4 refine S0 ?_ (e:=fun _ h_=>by simp only[sH,↓sP,sA,tyS,simprocAttr,A0,A4,hiN,hiN0,hil,hgd,hw1,bI,bK hiN,bK hiN0,dU,A5,ha,hn];exact AX h_)
       refine T2 (hK _ _ _ ?_);clear hK K;refine aL (by kernel_rfl) ?_;refine TQ hw1 ?_;refine⟨⟨i+1,hil⟩,aP (by omega) (by simp[bI]) (by simp[hs1]),?_⟩;show s.length-(i+1)<s.length-i;omega
      have ha:mD ps s k (i+1)=false:=by simpa using ha
      have hn:mD ps s (k+1) i=false:=by simpa using hn
      have htk:ps[k].takes s[i]=true:=by simp[Pt.takes,h3]
      have hs1:(cN (s.length+1) (nxt ps s k i)).set (i+1) (.bool false)=cN (s.length+1) (nxt ps s k (i+1)):=iE (by rw[rC,hprt,hlong,hgd];simp[ha,hn,htk]);refine Rg ?_;iterate 23 refine S0 ?_ (e:=fun _ h_=>by simp only[sH,↓sP,sA,tyS,simprocAttr,A0,A4,hiN,hiN0,hil,hgd,hw1,bI,bK hiN,bK hiN0,dU,A5,ha,hn];exact AX h_)
      refine T2 (hK _ _ _ ?_);clear hK K;refine aL (by kernel_rfl) ?_;refine TQ hw1 ?_;refine⟨⟨i+1,hil⟩,aP (by omega) (by simp[bI]) (by simp[hs1]),?_⟩;show s.length-(i+1)<s.length-i;omega
     refine bG (T3 ?_);clear hK K;refine AX (hK _ _ _ ?_);clear hK K;refine aL (by kernel_rfl) ?_;refine T0 (hK _ _ _ ?_);clear hK K;have hei:i=s.length:=by simp at hb;omega
     subst hei;have hra:=xH (ps:=ps) (s:=s) (k:=k);refine cM [144] (bB (fr2:=fin [(1,.c (.str s)),(7,.c (.slc (cN (s.length+1) (mD ps s (k+1))))),(31,.c (.slc (ps.map Pt.cv))),(32,.c (.int .i64 ps.length)),(33,.c (.int .i64 k))]) (ob2:=fob []) (nx2:=900) (aP (by omega) (by simp[jY,denilL_Pt,hra,bI]) (by simp)) ?_);refine aL (by kernel_rfl) ?_;refine TQ (fS k) ?_;refine⟨⟨k+1,hlt⟩,fF,?_⟩;show ps.length-(k+1)<ps.length-k;omega
    by_cases hm:mD ps s k 0=true
    ·
     have hz:(cN (s.length+1) (fun _=>false)).set 0 (.bool true)=cN (s.length+1) (nxt ps s k 0):=jZ (by rw[hm,hprt,hlong];rfl);refine Rg ?_;iterate 6 refine S0 ?_ (e:=fun _ h_=>by simp only[sH,↓sP,sA,tyS,simprocAttr,hzn,bI,bK (L5 s.length),H3,hm,hlong,Pt.cells,Pt.isAgg,Pt.getAll];exact AX h_)
     refine aW (g:=some (47,true)) rfl rfl fun K' hK'=>?_;simp only[sH,↓sP,sA,tyS,simprocAttr,hzn,bI,bK (L5 s.length),H3,hm,hlong,Pt.cells,Pt.isAgg,Pt.getAll];refine C1 (gN ps[k] hk3) ?_;rintro u rfl;refine AX (hK' _ _ ?_);clear hK' K';iterate 3 refine S0 ?_ (e:=fun _ h_=>by simp only[sH,↓sP,sA,tyS,simprocAttr,hzn,bI,bK (L5 s.length),H3,hm,hlong,Pt.cells,Pt.isAgg,Pt.getAll];exact AX h_)
     refine T4 ?_;exact key _ _ _ (aP (by omega) (by simp[bI]) (by simp[hz]))
    have hm0:mD ps s k 0=false:=by simpa using hm
    have hz:(cN (s.length+1) (fun _=>false)).set 0 (.bool false)=cN (s.length+1) (nxt ps s k 0):=jZ (by rw[hm0];rfl);refine Rg ?_;iterate 10 refine S0 ?_ (e:=fun _ h_=>by simp only[sH,↓sP,sA,tyS,simprocAttr,hzn,bI,bK (L5 s.length),H3,hm0,Pt.cells,Pt.isAgg,Pt.getAll];exact AX h_)
    refine T4 ?_;exact key _ _ _ (aP (by omega) (by simp[bI]) (by simp[hz]))
   by_cases h1:ps[k].k=1
   ·
    have hlong:ps[k].long=false:=by simp[Pt.long,h1]
    refine aC fun K hK=>Rg ?_;clear F;have F:=aI @Pt.cells (aI @Pt.isAgg @Pt.getAll);refine SF ?_;refine HS rfl rfl fun K' hK'=>T6 ?_;refine C1 (aH0 ps[k] (.inl h1)) ?_;rintro u rfl;refine AX (hK' _ _ ?_);clear hK' K';refine SF ?_;refine T2 (hK _ _ _ ?_);clear hK K;refine aC fun K hK=>Rg ?_;clear F;have F:=aI hwn (aI hn0 (aI hrep @A5));iterate 5 refine SF ?_
    refine T2 (hK _ _ _ ?_);clear hK K;refine aC fun K hK=>?_;have key: ∀fr ob nx,Fits 0 fr ob (fin [(1,.c (.str s)),(7,.c (.slc (cN (s.length+1) (mD ps s k)))),(9,.ptr 112 0),(10,.c (.fn 109)),(11,.own 144 (s.length+1)),(31,.c (.slc (ps.map Pt.cv))),(32,.c (.int .i64 ps.length)),(33,.c (.int .i64 k))]) (fob [(112,.box 138 (.c ps[k].cv)),(144,.row 4 1 (cN (s.length+1) (nxt ps s k 0)))]) 250→K fr ob nx:=by
     rintro fr ob nx hf;refine hK _ _ _ (bB hf ?_);clear hf hK K;refine aC fun K hK=>?_;refine R0 ?_;refine aM ?_;refine bN (α:={i:Nat//i≤s.length}) (fun i=>(fin [(1,.c (.str s)),(7,.c (.slc (cN (s.length+1) (mD ps s k)))),(9,.ptr 112 0),(10,.c (.fn 109)),(11,.own 144 (s.length+1)),(31,.c (.slc (ps.map Pt.cv))),(32,.c (.int .i64 ps.length)),(33,.c (.int .i64 k)),(53,.c (.int .i64 s.length)),(54,.c (.int .i64 i.1))],fob [(112,.box 138 (.c ps[k].cv)),(144,.row 4 1 (cN (s.length+1) (nxt ps s k i.1)))])) 300 (fun i=>s.length-i.1) ⟨0,by omega⟩ (fF) ?_;rintro⟨i,hi⟩;refine R0 ?_;refine aC fun K hK=>?_;refine aF (b:=decide ((i:Int)<s.length)) rfl (fun hb=>?_) (fun hb=>?_)
     ·
      have hil:i<s.length:=by simpa using hb
      clear hb;have hgd:s.getD i 0=s[i]:=by simp[hil]
      have hiN:i+1<s.length+1:=by omega
      have hiN0:i<s.length+1:=by omega
      have hw1:IntKind.i64.wrap ((i:Int)+1)=((i+1:Nat):Int):=by rw[A8 _ (by omega)];rfl
      refine aJ ?_;refine T0 (hK _ _ _ ?_);clear hK K;refine aC fun K hK=>?_;refine aM ?_;refine R0 ?_;refine aM ?_;refine aC fun K hK=>Rg ?_;clear F;have F:=aI @Pt.cells (aI @Pt.isAgg (aI @Pt.getAll hlong));refine SF ?_;refine HS rfl rfl fun K' hK'=>T6 ?_;refine C1 (gN ps[k] hk3) ?_;rintro u rfl;refine AX (hK' _ _ ?_);clear hK' K';refine SF ?_;refine T2 (hK _ _ _ ?_);clear hK K;refine CF rfl ?_;by_cases ha:mD ps s k i=true
      ·
       have htk:ps[k].takes s[i]=(!(s[i]==47)):=by simp[Pt.takes,h1]
       have hs1:(cN (s.length+1) (nxt ps s k i)).set (i+1) (.bool (!(s[i]==47)))=cN (s.length+1) (nxt ps s k (i+1)):=iE (by rw[rC,hprt,hlong,hgd];simp[ha,htk]);refine Rg ?_;iterate 12 refine S0 ?_ (e:=fun _ h_=>by simp only[sH,↓sP,sA,tyS,simprocAttr,A0,A4,hiN,hiN0,hil,hgd,hw1,bI,bK hiN,bK hiN0,dU,A5,ha];exact AX h_)
       refine aW (g:=some (64,true)) rfl rfl fun K' hK'=>?_;simp only[sH,↓sP,sA,tyS,simprocAttr,A0,A4,hiN,hiN0,hil,hgd,hw1,bI,bK hiN,bK hiN0,dU,A5,ha];refine C1 (bI6 s[i]) ?_;rintro u rfl;refine AX (hK' _ _ ?_);clear hK' K';iterate 3 refine S0 ?_ (e:=fun _ h_=>by simp only[sH,↓sP,sA,tyS,simprocAttr,A0,A4,hiN,hiN0,hil,hgd,hw1,bI,bK hiN,bK hiN0,dU,A5,ha];exact AX h_)
       refine T2 (hK _ _ _ ?_);clear hK K;refine aL (by kernel_rfl) ?_;refine TQ hw1 ?_;refine⟨⟨i+1,hil⟩,aP (by omega) (by simp[bI]) (by simp[hs1]),?_⟩;show s.length-(i+1)<s.length-i;omega
      have ha:mD ps s k i=false:=by simpa using ha
      have htk:ps[k].takes s[i]=(!(s[i]==47)):=by simp[Pt.takes,h1]
      have hs1:(cN (s.length+1) (nxt ps s k i)).set (i+1) (.bool false)=cN (s.length+1) (nxt ps s k (i+1)):=iE (by rw[rC,hprt,hlong,hgd];simp[ha,htk]);refine Rg ?_;iterate 16 refine S0 ?_ (e:=fun _ h_=>by simp only[sH,↓sP,sA,tyS,simprocAttr,A0,A4,hiN,hiN0,hil,hgd,hw1,bI,bK hiN,bK hiN0,dU,A5,ha];exact AX h_)
      refine T2 (hK _ _ _ ?_);clear hK K;refine aL (by kernel_rfl) ?_;refine TQ hw1 ?_;refine⟨⟨i+1,hil⟩,aP (by omega) (by simp[bI]) (by simp[hs1]),?_⟩;show s.length-(i+1)<s.length-i;omega
     refine bG (T3 ?_);clear hK K;refine AX (hK _ _ _ ?_);clear hK K;refine aL (by kernel_rfl) ?_;refine T0 (hK _ _ _ ?_);clear hK K;have hei:i=s.length:=by simp at hb;omega
     subst hei;have hra:=xH (ps:=ps) (s:=s) (k:=k);refine cM [144] (bB (fr2:=fin [(1,.c (.str s)),(7,.c (.slc (cN (s.length+1) (mD ps s (k+1))))),(31,.c (.slc (ps.map Pt.cv))),(32,.c (.int .i64 ps.length)),(33,.c (.int .i64 k))]) (ob2:=fob []) (nx2:=900) (aP (by omega) (by simp[jY,denilL_Pt,hra,bI]) (by simp)) ?_);refine aL (by kernel_rfl) ?_;refine TQ (fS k) ?_;refine⟨⟨k+1,hlt⟩,fF,?_⟩;show ps.length-(k+1)<ps.length-k;omega
    by_cases hm:mD ps s k 0=true
    ·
     have hz:(cN (s.length+1) (fun _=>false)).set 0 (.bool false)=cN (s.length+1) (nxt ps s k 0):=jZ (by rw[hm,hprt,hlong];rfl);refine Rg ?_;iterate 6 refine S0 ?_ (e:=fun _ h_=>by simp only[sH,↓sP,sA,tyS,simprocAttr,hzn,bI,bK (L5 s.length),H3,hm,hlong,Pt.cells,Pt.isAgg,Pt.getAll];exact AX h_)
     refine aW (g:=some (47,true)) rfl rfl fun K' hK'=>?_;simp only[sH,↓sP,sA,tyS,simprocAttr,hzn,bI,bK (L5 s.length),H3,hm,hlong,Pt.cells,Pt.isAgg,Pt.getAll];refine C1 (gN ps[k] hk3) ?_;rintro u rfl;refine AX (hK' _ _ ?_);clear hK' K';iterate 3 refine S0 ?_ (e:=fun _ h_=>by simp only[sH,↓sP,sA,tyS,simprocAttr,hzn,bI,bK (L5 s.length),H3,hm,hlong,Pt.cells,Pt.isAgg,Pt.getAll];exact AX h_)
     refine T4 ?_;exact key _ _ _ (aP (by omega) (by simp[bI]) (by simp[hz]))
    have hm0:mD ps s k 0=false:=by simpa using hm
    have hz:(cN (s.length+1) (fun _=>false)).set 0 (.bool false)=cN (s.length+1) (nxt ps s k 0):=jZ (by rw[hm0];rfl);refine Rg ?_;iterate 10 refine S0 ?_ (e:=fun _ h_=>by simp only[sH,↓sP,sA,tyS,simprocAttr,hzn,bI,bK (L5 s.length),H3,hm0,Pt.cells,Pt.isAgg,Pt.getAll];exact AX h_)
    refine T4 ?_;exact key _ _ _ (aP (by omega) (by simp[bI]) (by simp[hz]))
   have h2:ps[k].k=2:=by omega
   have hlong:ps[k].long=true:=by simp[Pt.long,h2]
   refine aC fun K hK=>Rg ?_;clear F;have F:=aI @Pt.cells (aI @Pt.isAgg @Pt.getAll);refine SF ?_;refine HS rfl rfl fun K' hK'=>T6 ?_;refine C1 (aH0 ps[k] (.inr h2)) ?_;rintro u rfl;refine AX (hK' _ _ ?_);clear hK' K';refine SF ?_;refine T2 (hK _ _ _ ?_);clear hK K;refine aC fun K hK=>Rg ?_;clear F;have F:=aI hwn (aI hn0 (aI hrep @A5));iterate 5 refine SF ?_
   refine T2 (hK _ _ _ ?_);clear hK K;refine aC fun K hK=>?_;have key: ∀fr ob nx,Fits 0 fr ob (fin [(1,.c (.str s)),(7,.c (.slc (cN (s.length+1) (mD ps s k)))),(9,.ptr 112 0),(10,.c (.fn 109)),(11,.own 144 (s.length+1)),(31,.c (.slc (ps.map Pt.cv))),(32,.c (.int .i64 ps.length)),(33,.c (.int .i64 k))]) (fob [(112,.box 138 (.c ps[k].cv)),(144,.row 4 1 (cN (s.length+1) (nxt ps s k 0)))]) 250→K fr ob nx:=by
    rintro fr ob nx hf;refine hK _ _ _ (bB hf ?_);clear hf hK K;refine aC fun K hK=>?_;refine R0 ?_;refine aM ?_;refine bN (α:={i:Nat//i≤s.length}) (fun i=>(fin [(1,.c (.str s)),(7,.c (.slc (cN (s.length+1) (mD ps s k)))),(9,.ptr 112 0),(10,.c (.fn 109)),(11,.own 144 (s.length+1)),(31,.c (.slc (ps.map Pt.cv))),(32,.c (.int .i64 ps.length)),(33,.c (.int .i64 k)),(53,.c (.int .i64 s.length)),(54,.c (.int .i64 i.1))],fob [(112,.box 138 (.c ps[k].cv)),(144,.row 4 1 (cN (s.length+1) (nxt ps s k i.1)))])) 300 (fun i=>s.length-i.1) ⟨0,by omega⟩ (fF) ?_;rintro⟨i,hi⟩;refine R0 ?_;refine aC fun K hK=>?_;refine aF (b:=decide ((i:Int)<s.length)) rfl (fun hb=>?_) (fun hb=>?_)
    ·
     have hil:i<s.length:=by simpa using hb
     clear hb;have hgd:s.getD i 0=s[i]:=by simp[hil]
     have hiN:i+1<s.length+1:=by omega
     have hiN0:i<s.length+1:=by omega
     have hw1:IntKind.i64.wrap ((i:Int)+1)=((i+1:Nat):Int):=by rw[A8 _ (by omega)];rfl
     refine aJ ?_;refine T0 (hK _ _ _ ?_);clear hK K;refine aC fun K hK=>?_;refine aM ?_;refine R0 ?_;refine aM ?_;refine aC fun K hK=>Rg ?_;clear F;have F:=aI @Pt.cells (aI @Pt.isAgg (aI @Pt.getAll hlong));refine SF ?_;refine HS rfl rfl fun K' hK'=>T6 ?_;refine C1 (gN ps[k] hk3) ?_;rintro u rfl;refine AX (hK' _ _ ?_);clear hK' K';refine SF ?_;refine T2 (hK _ _ _ ?_);clear hK K;refine CT rfl ?_;by_cases ha:mD ps s k (i+1)=true
     ·
      have htk:ps[k].takes s[i]=(!(s[i]==47)):=by simp[Pt.takes,h2]
      have hs1:(cN (s.length+1) (nxt ps s k i)).set (i+1) (.bool true)=cN (s.length+1) (nxt ps s k (i+1)):=iE (by rw[rC,hprt,hlong,hgd];simp[ha,htk]);refine Rg ?_;iterate 23 refine S0 ?_ (e:=fun _ h_=>by simp only[sH,↓sP,sA,tyS,simprocAttr,A0,A4,hiN,hiN0,hil,hgd,hw1,bI,bK hiN,bK hiN0,dU,A5,ha];exact AX h_)
      refine T2 (hK _ _ _ ?_);clear hK K;refine aL (by kernel_rfl) ?_;refine TQ hw1 ?_;refine⟨⟨i+1,hil⟩,aP (by omega) (by simp[bI]) (by simp[hs1]),?_⟩;show s.length-(i+1)<s.length-i;omega
     by_cases hn:mD ps s (k+1) i=true
     ·
      have ha:mD ps s k (i+1)=false:=by simpa using ha
      have htk:ps[k].takes s[i]=(!(s[i]==47)):=by simp[Pt.takes,h2]
      have hs1:(cN (s.length+1) (nxt ps s k i)).set (i+1) (.bool (!(s[i]==47)))=cN (s.length+1) (nxt ps s k (i+1)):=iE (by rw[rC,hprt,hlong,hgd];simp[ha,hn,htk]);refine Rg ?_;iterate 18 refine S0 ?_ (e:=fun _ h_=>by simp only[sH,↓sP,sA,tyS,simprocAttr,A0,A4,hiN,hiN0,hil,hgd,hw1,bI,bK hiN,bK hiN0,dU,A5,ha,hn];exact AX h_)
      refine aW (g:=some (88,true)) rfl rfl fun K' hK'=>?_;simp only[sH,↓sP,sA,tyS,simprocAttr,A0,A4,hiN,hiN0,hil,hgd,hw1,bI,bK hiN,bK hiN0,dU,A5,ha,hn];refine C1 (bI6 s[i]) ?_;rintro u rfl;refine AX (hK' _ _ ?_);clear hK' K';iterate 4 refine S0 ?_ (e:=fun _ h_=>by simp only[sH,↓sP,sA,tyS,simprocAttr,A0,A4,hiN,hiN0,hil,hgd,hw1,bI,bK hiN,bK hiN0,dU,A5,ha,hn];exact AX h_)
      refine T2 (hK _ _ _ ?_);clear hK K;refine aL (by kernel_rfl) ?_;refine TQ hw1 ?_;refine⟨⟨i+1,hil⟩,aP (by omega) (by simp[bI]) (by simp[hs1]),?_⟩;show s.length-(i+1)<s.length-i;omega
     have ha:mD ps s k (i+1)=false:=by simpa using ha
     have hn:mD ps s (k+1) i=false:=by simpa using hn
     have htk:ps[k].takes s[i]=(!(s[i]==47)):=by simp[Pt.takes,h2]
     have hs1:(cN (s.length+1) (nxt ps s k i)).set (i+1) (.bool false)=cN (s.length+1) (nxt ps s k (i+1)):=iE (by rw[rC,hprt,hlong,hgd];simp[ha,hn,htk]);refine Rg ?_;iterate 23 refine S0 ?_ (e:=fun _ h_=>by simp only[sH,↓sP,sA,tyS,simprocAttr,A0,A4,hiN,hiN0,hil,hgd,hw1,bI,bK hiN,bK hiN0,dU,A5,ha,hn];exact AX h_)
     refine T2 (hK _ _ _ ?_);clear hK K;refine aL (by kernel_rfl) ?_;refine TQ hw1 ?_;refine⟨⟨i+1,hil⟩,aP (by omega) (by simp[bI]) (by simp[hs1]),?_⟩;show s.length-(i+1)<s.length-i;omega
    refine bG (T3 ?_);clear hK K;refine AX (hK _ _ _ ?_);clear hK K;refine aL (by kernel_rfl) ?_;refine T0 (hK _ _ _ ?_);clear hK K;have hei:i=s.length:=by simp at hb;omega
    subst hei;have hra:=xH (ps:=ps) (s:=s) (k:=k);refine cM [144] (bB (fr2:=fin [(1,.c (.str s)),(7,.c (.slc (cN (s.length+1) (mD ps s (k+1))))),(31,.c (.slc (ps.map Pt.cv))),(32,.c (.int .i64 ps.length)),(33,.c (.int .i64 k))]) (ob2:=fob []) (nx2:=900) (aP (by omega) (by simp[jY,denilL_Pt,hra,bI]) (by simp)) ?_);refine aL (by kernel_rfl) ?_;refine TQ (fS k) ?_;refine⟨⟨k+1,hlt⟩,fF,?_⟩;show ps.length-(k+1)<ps.length-k;omega
   by_cases hm:mD ps s k 0=true
   ·
    have hz:(cN (s.length+1) (fun _=>false)).set 0 (.bool true)=cN (s.length+1) (nxt ps s k 0):=jZ (by rw[hm,hprt,hlong];rfl);refine Rg ?_;iterate 6 refine S0 ?_ (e:=fun _ h_=>by simp only[sH,↓sP,sA,tyS,simprocAttr,hzn,bI,bK (L5 s.length),H3,hm,hlong,Pt.cells,Pt.isAgg,Pt.getAll];exact AX h_)
    refine aW (g:=some (47,true)) rfl rfl fun K' hK'=>?_;simp only[sH,↓sP,sA,tyS,simprocAttr,hzn,bI,bK (L5 s.length),H3,hm,hlong,Pt.cells,Pt.isAgg,Pt.getAll];refine C1 (gN ps[k] hk3) ?_;rintro u rfl;refine AX (hK' _ _ ?_);clear hK' K';iterate 3 refine S0 ?_ (e:=fun _ h_=>by simp only[sH,↓sP,sA,tyS,simprocAttr,hzn,bI,bK (L5 s.length),H3,hm,hlong,Pt.cells,Pt.isAgg,Pt.getAll];exact AX h_)
    refine T4 ?_;exact key _ _ _ (aP (by omega) (by simp[bI]) (by simp[hz]))
   have hm0:mD ps s k 0=false:=by simpa using hm
   have hz:(cN (s.length+1) (fun _=>false)).set 0 (.bool false)=cN (s.length+1) (nxt ps s k 0):=jZ (by rw[hm0];rfl);refine Rg ?_;iterate 10 refine S0 ?_ (e:=fun _ h_=>by simp only[sH,↓sP,sA,tyS,simprocAttr,hzn,bI,bK (L5 s.length),H3,hm0,Pt.cells,Pt.isAgg,Pt.getAll];exact AX h_)
   refine T4 ?_;exact key _ _ _ (aP (by omega) (by simp[bI]) (by simp[hz]))
  refine bG (T3 ?_);clear hK K;refine AX (hK _ _ _ ?_);clear hK K;have hek:k=ps.length:=by simp at hb;omega
  subst hek;refine aC fun K hK=>Rg ?_;iterate 6 refine S0 ?_ (e:=fun _ h_=>by simp only[sH,↓sP,sA,tyS,simprocAttr,A0,A4,H7,bI,bK (H7 s.length),A5];exact AX h_)
  refine T2 (hK _ _ _ ?_);clear hK K;refine aE (RT Tryz.results65 ?_);exact aK [] (.bool (mD ps s ps.length s.length)) rfl (by rw[hmv])
 rename_i ps;have hs0:lS s=false:=by simpa using hs
 refine aC fun K hK=>Rg ?_;iterate 4 refine S0 ?_ (e:=fun _ h_=>by simp only[sH,↓sP,sA,tyS,simprocAttr,G2,D8,hs0,D7,E0];exact AX h_)
 refine aW (g:=some (20,false)) rfl rfl fun K' hK'=>?_;simp only[sH,↓sP,sA,tyS,simprocAttr,G2,D8,hs0,D7,E0];refine C1 (bJ5 s) ?_;rintro u rfl;refine AX (hK' _ _ ?_);clear hK' K';iterate 2 refine S0 ?_ (e:=fun _ h_=>by simp only[sH,↓sP,sA,tyS,simprocAttr,G2,D8,hs0,D7,E0];exact AX h_)
 refine T2 (hK _ _ _ ?_);clear hK K;refine CT rfl ?_;refine R0 ?_;refine aE (RT Tryz.results65 ?_);exact aK [] (.bool false) rfl (by rw[aW7 hs0])
end Go.Proofs.YtlgckianjabghaaGreatDoor
namespace Go.Pl
open Go Go.Hl
section
variable {ps:List Pt}{s:aH}
end
end Go.Pl
namespace Go.Proofs.YtlgckianjabghaaGreatDoor
open Go Go.Hl Go.Pl
end Go.Proofs.YtlgckianjabghaaGreatDoor
