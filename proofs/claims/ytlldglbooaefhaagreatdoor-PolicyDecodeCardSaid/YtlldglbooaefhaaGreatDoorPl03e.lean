/- Plain Lean: the rows of Match as the walks see them. By an AI agent. -/
import Derived.Test.YtlldglbooaefhaaGreatDoorHzU1
import Derived.Test.YtlldglbooaefhaaGreatDoorPl11w
import Derived.Test.YtlldglbooaefhaaGreatDoorHlTlaw
import Derived.Test.YtlldglbooaefhaaGreatDoorPl03c
set_option linter.unusedSimpArgs false
set_option linter.unusedVariables false
set_option linter.defProp false
namespace Go.Proofs.YtlldglbooaefhaaGreatDoor
open Go Go.Hl Go.Pl
set_option maxRecDepth 10000
set_option maxHeartbeats 16000000
theorem aQ5 (p:aF):iB Tryz.prog 83 [.str p] (fun u v=>u= .slc (((fJ p).getD []).map Pt.cv)∧v= .bool (fJ p).isSome):=by
 refine FW Tryz.func83 ?_;refine R0 ?_;refine aB fun K hK=>?_;refine aB fun K hK=>Rg ?_;iterate 4 refine S0 ?_
 refine aD 8 rfl (fun h1_8=>?_) (fun h1_8=>?_)
 ·
  have F:=h1_8;iterate 9 refine SF ?_
  refine T2 (hK _ _ _ ?_);clear hK K;refine CT rfl ?_;refine R0 ?_;refine aE (RT Tryz.results83 ?_);have hn:fJ p=none:=rW (by simp at h1_8;omega);refine aO [] (.slc []) (.bool false) ?_ ⟨by rw[hn];rfl,by rw[hn];rfl⟩;simp[HV.close,HV.closeL,CV.denil,CV.denilL,HV.norm,HV.toC,HV.toCL]
 have F:=h1_8;iterate 5 refine SF ?_
 refine aD 12 rfl (fun h1_12=>?_) (fun h1_12=>?_)
 ·
  have F:=aI h1_8 h1_12;iterate 4 refine SF ?_
  refine T2 (hK _ _ _ ?_);clear hK K;refine CT rfl ?_;refine R0 ?_;refine aE (RT Tryz.results83 ?_);have hn:fJ p=none:=rW (by simp at h1_12;omega);refine aO [] (.slc []) (.bool false) ?_ ⟨by rw[hn];rfl,by rw[hn];rfl⟩;simp[HV.close,HV.closeL,CV.denil,CV.denilL,HV.norm,HV.toC,HV.toCL]
 have F:=aI h1_8 h1_12;refine SF ?_;refine aP (g:=some (14,false)) rfl rfl fun K' hK'=>T6 ?_;refine C2 (rP p 0) ?_;rintro u rfl;refine AX (hK' _ _ ?_);clear hK' K';iterate 2 refine SF ?_
 refine aD 17 rfl (fun h1_17=>?_) (fun h1_17=>?_)
 ·
  simp only[h1_17];refine T2 (hK _ _ _ ?_);clear hK K;refine CT rfl ?_;refine R0 ?_;refine aE (RT Tryz.results83 ?_);have hn:fJ p=none:=by
   rw[aH2 (by simp at h1_8;omega) (by simp at h1_12;omega)];exact jQ p.length p (Nat.le_refl _) (aQ4 (by simpa using h1_17))
  refine aO [] (.slc []) (.bool false) ?_ ⟨by rw[hn];rfl,by rw[hn];rfl⟩;simp[HV.close,HV.closeL,CV.denil,CV.denilL,HV.norm,HV.toC,HV.toCL]
 simp only[h1_17];refine T2 (hK _ _ _ ?_);clear hK K;refine CF rfl ?_;refine aJ ?_;refine T0 (hK _ _ _ ?_);clear hK K;have hpv:=aH2 (p:=p) (by simp at h1_8;omega) (by simp at h1_12;omega);have hl:p.length≤200:=by simp at h1_12;omega
 have hz0:(0:UInt8)∉p:=uR (by simpa using h1_17);have hz: ∀(i:Nat) (h:i<p.length),p[i]≠0:=fun i h e=>hz0 (e▸List.getElem_mem h);clear h1_8 h1_12 h1_17;refine R0 ?_;refine aB fun K hK=>?_;refine R0 ?_;refine aN ?_;refine jX 4 0 140 2 rfl rfl rfl rfl ?_;refine bR (α:={y:Nat×List Pt//PatSt p y.1 y.2}) (fun y=>(fin [(0,.c (.str p)),(4,.own 68 y.1.2.length),(5,.c (.int .i64 y.1.1))],fob [(68,.row 140 2 (y.1.2.map Pt.cv))])) 100 (fun y=>p.length-y.1.1) ⟨(0,[]),PatSt.init p⟩ (fF) ?_;rintro⟨⟨i,out⟩,hst⟩;simp only at hst;have hi:=hst.1;have ho:=hst.2.2.1;refine aB fun K hK=>?_;refine aB fun K hK=>Rg ?_;iterate 4 refine S0 ?_
 refine T2 (hK _ _ _ ?_);clear hK K;refine aG (b:=decide ((i:Int)<p.length)) rfl (fun hb=>?_) (fun hb=>?_)
 ·
  have hlt:i<p.length:=by simpa using hb
  clear hb;have hgd:p.getD i 0=p[i]:=by simp[hlt]
  have hw1:IntKind.i64.wrap ((i:Int)+1)=((i+1:Nat):Int):=by rw[IntWalk.i64_in _ (by omega)];rfl
  have hw2:IntKind.i64.wrap (((i+1:Nat):Int)+1)=((i+2:Nat):Int):=by rw[IntWalk.i64_in _ (by omega)];rfl
  refine aJ ?_;refine T0 (hK _ _ _ ?_);clear hK K;refine aB fun K hK=>?_;refine aN ?_;refine aN ?_;refine aB fun K hK=>Rg ?_;iterate 5 refine S0 ?_ (e:=fun _ h_=>by simp only[sH,↓sP,sA,tyS,simprocAttr,Int.natCast_nonneg,Int.ofNat_lt,hlt,hgd];exact AX h_)
  refine T2 (hK _ _ _ ?_);clear hK K;refine aG (b:=((p[i].toNat:Int)==92)) rfl (fun hb=>?_) (fun hb=>?_)
  ·
   have h92:p[i]=92:=bEq (d:=92) hb;clear hb;have F:=hw1;refine RF ?_;refine aB fun K hK=>?_;refine aB fun K hK=>Rg ?_;iterate 4 refine S0 ?_
   refine T2 (hK _ _ _ ?_);clear hK K;refine aG (b:=(((i+1:Nat):Int)==((p.length:Nat):Int))) rfl (fun hb=>?_) (fun hb=>?_)
   ·
    have hie:i+1=p.length:=by have:=eq_of_beq hb;omega
    refine R0 ?_;refine aE (RT Tryz.results83 ?_);have hn:fJ p=none:=by rw[hpv];exact hst.bad (zZ hlt h92 hie)
    refine aO [] (.slc []) (.bool false) ?_ ⟨by rw[hn];rfl,by rw[hn];rfl⟩;simp[HV.close,HV.closeL,CV.denil,CV.denilL,HV.norm,HV.toC,HV.toCL]
   have hi1:i+1<p.length:=by
    have: ¬i+1=p.length:=by rintro e;rw[e]at hb;simp at hb
    omega
   clear hb;have hg1:p.getD (i+1) 0=p[i+1]:=by simp[hi1]
   refine aJ ?_;refine T0 (hK _ _ _ ?_);clear hK K;refine Rg ?_;have F:=aI @Int.natCast_nonneg (aI @Int.ofNat_lt (aI hi1 (aI hg1 (aI @List.length_append.{0} @List.length_map.{0,0}))));iterate 8 refine SF ?_
   refine T2 (hK _ _ _ ?_);clear hK K;refine aK (by kernel_rfl) ?_;refine TQ hw2 ?_;refine⟨⟨(i+2,out++[⟨0,p[i+1]⟩]),hst.step (k:=2) (by omega) (by omega) (by simp) (aN0 hi1 h92 (hz (i+1) hi1))⟩,aM (by omega) ?_ ?_,?_⟩
   · simp[aZ,upd_at,fin_at,HV.men]
   · simp only[bA,List.map_append];exact⟨rfl,by omega,trivial,trivial⟩
   show p.length-(i+2)<p.length-i;omega
  have h92:p[i]≠92:=bNe (d:=92) hb;clear hb;refine aB fun K hK=>Rg ?_;iterate 5 refine S0 ?_ (e:=fun _ h_=>by simp only[sH,↓sP,sA,tyS,simprocAttr,Int.natCast_nonneg,Int.ofNat_lt,hlt,hgd];exact AX h_)
  refine T2 (hK _ _ _ ?_);clear hK K;refine aG (b:=((p[i].toNat:Int)==63)) rfl (fun hb=>?_) (fun hb=>?_)
  ·
   have h63:p[i]=63:=bEq (d:=63) hb;clear hb;refine Rg ?_;have F:=aI @List.length_append.{0} @List.length_map.{0,0};iterate 5 refine SF ?_
   refine T2 (hK _ _ _ ?_);clear hK K;refine aK (by kernel_rfl) ?_;refine TQ hw1 ?_;refine⟨⟨(i+1,out++[⟨1,0⟩]),hst.step (k:=1) (by omega) (by omega) (by simp) (bP7 hlt h63)⟩,aM (by omega) ?_ ?_,?_⟩
   · simp[aZ,upd_at,fin_at,HV.men]
   · simp only[bA,List.map_append];exact⟨rfl,by omega,trivial,trivial⟩
   show p.length-(i+1)<p.length-i;omega
  have h63:p[i]≠63:=bNe (d:=63) hb;clear hb;by_cases h42:p[i]=42
  ·
   by_cases hi1:i+1<p.length
   ·
    by_cases h43:p[i+1]=42
    ·
     have hd42:((p[i].toNat:Int)==42)=true:=by rw[h42];rfl
     have hg1:p.getD (i+1) 0=p[i+1]:=by simp[hi1]
     have hd43:((p[i+1].toNat:Int)==42)=true:=by rw[h43];rfl
     refine aB fun K hK=>Rg ?_;iterate 19 refine S0 ?_ (e:=fun _ h_=>by simp only[sH,↓sP,sA,tyS,simprocAttr,Int.natCast_nonneg,Int.ofNat_lt,hlt,hgd,hw1,hi1,hg1,hd42,hd43,decide_true];exact AX h_)
     refine T2 (hK _ _ _ ?_);clear hK K;refine CT rfl ?_;have F:=hw1;refine RF ?_;refine Rg ?_;have F:=aI @List.length_append.{0} @List.length_map.{0,0};iterate 5 refine SF ?_
     refine T2 (hK _ _ _ ?_);clear hK K;refine aK (by kernel_rfl) ?_;refine TQ hw2 ?_;refine⟨⟨(i+2,out++[⟨3,0⟩]),hst.step (k:=2) (by omega) (by omega) (by simp) (bB9 hi1 h42 h43)⟩,aM (by omega) ?_ ?_,?_⟩
     · simp[aZ,upd_at,fin_at,HV.men]
     · simp only[bA,List.map_append];exact⟨rfl,by omega,trivial,trivial⟩
     show p.length-(i+2)<p.length-i;omega
    have hd42:((p[i].toNat:Int)==42)=true:=by rw[h42];rfl
    have hg1:p.getD (i+1) 0=p[i+1]:=by simp[hi1]
    have hd43:((p[i+1].toNat:Int)==42)=false:=by rw[show(42:Int)=((42:UInt8).toNat:Int)from rfl,bI6];simpa using h43
    refine aB fun K hK=>Rg ?_;iterate 19 refine S0 ?_ (e:=fun _ h_=>by simp only[sH,↓sP,sA,tyS,simprocAttr,Int.natCast_nonneg,Int.ofNat_lt,hlt,hgd,hw1,hi1,hg1,hd42,hd43,decide_true];exact AX h_)
    refine T2 (hK _ _ _ ?_);clear hK K;refine CF rfl ?_;refine aB fun K hK=>Rg ?_;iterate 5 refine S0 ?_ (e:=fun _ h_=>by simp only[sH,↓sP,sA,tyS,simprocAttr,Int.natCast_nonneg,Int.ofNat_lt,hlt,hgd,hd42];exact AX h_)
    refine T2 (hK _ _ _ ?_);clear hK K;refine CT rfl ?_;refine Rg ?_;have F:=aI @List.length_append.{0} @List.length_map.{0,0};iterate 5 refine SF ?_
    refine T2 (hK _ _ _ ?_);clear hK K;refine aK (by kernel_rfl) ?_;refine TQ hw1 ?_;refine⟨⟨(i+1,out++[⟨2,0⟩]),hst.step (k:=1) (by omega) (by omega) (by simp) (aF8 hlt h42 fun _=>h43)⟩,aM (by omega) ?_ ?_,?_⟩
    · simp[aZ,upd_at,fin_at,HV.men]
    · simp only[bA,List.map_append];exact⟨rfl,by omega,trivial,trivial⟩
    show p.length-(i+1)<p.length-i;omega
   have hd42:((p[i].toNat:Int)==42)=true:=by rw[h42];rfl
   have hdi:decide (((i+1:Nat):Int)<((p.length:Nat):Int))=false:=by simp;omega
   refine aB fun K hK=>Rg ?_;iterate 19 refine S0 ?_ (e:=fun _ h_=>by simp only[sH,↓sP,sA,tyS,simprocAttr,Int.natCast_nonneg,hdi,hlt,hgd,hw1,hd42];exact AX h_)
   refine T2 (hK _ _ _ ?_);clear hK K;refine CF rfl ?_;refine aB fun K hK=>Rg ?_;iterate 5 refine S0 ?_ (e:=fun _ h_=>by simp only[sH,↓sP,sA,tyS,simprocAttr,Int.natCast_nonneg,Int.ofNat_lt,hlt,hgd,hd42];exact AX h_)
   refine T2 (hK _ _ _ ?_);clear hK K;refine CT rfl ?_;refine Rg ?_;have F:=aI @List.length_append.{0} @List.length_map.{0,0};iterate 5 refine SF ?_
   refine T2 (hK _ _ _ ?_);clear hK K;refine aK (by kernel_rfl) ?_;refine TQ hw1 ?_;refine⟨⟨(i+1,out++[⟨2,0⟩]),hst.step (k:=1) (by omega) (by omega) (by simp) (aF8 hlt h42 fun h=>absurd h hi1)⟩,aM (by omega) ?_ ?_,?_⟩
   · simp[aZ,upd_at,fin_at,HV.men]
   · simp only[bA,List.map_append];exact⟨rfl,by omega,trivial,trivial⟩
   show p.length-(i+1)<p.length-i;omega
  have hd42:((p[i].toNat:Int)==42)=false:=by rw[show(42:Int)=((42:UInt8).toNat:Int)from rfl,bI6];simpa using h42
  refine aB fun K hK=>Rg ?_;iterate 19 refine S0 ?_ (e:=fun _ h_=>by simp only[sH,↓sP,sA,tyS,simprocAttr,Int.natCast_nonneg,Int.ofNat_lt,hlt,hgd,hw1,hd42];exact AX h_)
  refine T2 (hK _ _ _ ?_);clear hK K;refine CF rfl ?_;refine aB fun K hK=>Rg ?_;iterate 5 refine S0 ?_ (e:=fun _ h_=>by simp only[sH,↓sP,sA,tyS,simprocAttr,Int.natCast_nonneg,Int.ofNat_lt,hlt,hgd,hd42];exact AX h_)
  refine T2 (hK _ _ _ ?_);clear hK K;refine CF rfl ?_;refine Rg ?_;iterate 8 refine S0 ?_ (e:=fun _ h_=>by simp only[sH,↓sP,sA,tyS,simprocAttr,Int.natCast_nonneg,Int.ofNat_lt,hlt,hgd,List.length_append,List.length_map];exact AX h_)
  refine T2 (hK _ _ _ ?_);clear hK K;refine aK (by kernel_rfl) ?_;refine TQ hw1 ?_;refine⟨⟨(i+1,out++[⟨0,p[i]⟩]),hst.step (k:=1) (by omega) (by omega) (by simp) (bP8 hlt (hz i hlt) h92 h63 h42)⟩,aM (by omega) ?_ ?_,?_⟩
  · simp[aZ,upd_at,fin_at,HV.men]
  · simp only[bA,List.map_append];exact⟨rfl,by omega,trivial,trivial⟩
  show p.length-(i+1)<p.length-i;omega
 refine bJ (T3 ?_);clear hK K;refine AX (hK _ _ _ ?_);clear hK K;have hei:i=p.length:=by simp at hb;omega
 have hfin:fJ p=some out:=by rw[hpv];exact hst.fin hei
 refine R0 ?_;refine aE (RT Tryz.results83 ?_);refine aO [68] (.slc (out.map Pt.cv)) (.bool true) ?_ ⟨by rw[hfin];rfl,by rw[hfin];rfl⟩;simp[HV.close,fob_at,upd_at,HV.norm,HV.toC,HV.closeL,HV.toCL,CV.denil,denilL_Pt]
theorem cD1 (p:aF):iB Tryz.prog 84 [.str p] (fun u v=>u= .slc (((fJ p).getD []).map Pt.cv)∧v= .bool (fJ p).isSome):=by
 refine FW Tryz.func84 ?_;refine R0 ?_;refine aB fun K hK=>?_;refine aB fun K hK=>Rg ?_;iterate 3 refine S0 ?_
 refine aD 8 rfl (fun h1_8=>?_) (fun h1_8=>?_)
 ·
  have F:=h1_8;iterate 4 refine SF ?_
  refine T2 (hK _ _ _ ?_);clear hK K;refine CT rfl ?_;refine R0 ?_;refine aE (RT Tryz.results84 ?_);have hn:fJ p=none:=by
   have:p=[]:=by simpa using h1_8
   exact rW (.inl (by rw[this];simp))
  refine aO [] (.slc []) (.bool false) ?_ ⟨by rw[hn];rfl,by rw[hn];rfl⟩;simp[HV.close,HV.closeL,CV.denil,CV.denilL,HV.norm,HV.toC,HV.toCL]
 have F:=h1_8;iterate 4 refine SF ?_
 refine aD 12 rfl (fun h1_12=>?_) (fun h1_12=>?_)
 ·
  simp only[h1_12];refine T2 (hK _ _ _ ?_);clear hK K;refine CT rfl ?_;refine R0 ?_;refine aE (RT Tryz.results84 ?_);have hn:fJ p=none:=by exact rW (by simp at h1_12;omega)
  refine aO [] (.slc []) (.bool false) ?_ ⟨by rw[hn];rfl,by rw[hn];rfl⟩;simp[HV.close,HV.closeL,CV.denil,CV.denilL,HV.norm,HV.toC,HV.toCL]
 simp only[h1_12];refine T2 (hK _ _ _ ?_);clear hK K;refine CF rfl ?_;refine aJ ?_;refine T0 (hK _ _ _ ?_);clear hK K;have hpl:1≤p.length:=List.length_pos_iff.2 (by simpa using h1_8);have hl:p.length≤200:=by simp at h1_12;omega
 have hpv:=aH2 hpl hl;clear h1_8 h1_12;refine R0 ?_;refine aB fun K hK=>?_;refine R0 ?_;refine aN ?_;refine jX 4 0 143 2 rfl rfl rfl rfl ?_;refine bR (α:={y:Nat×List Pt//PatSt p y.1 y.2}) (fun y=>(fin [(0,.c (.str p)),(4,.own 44 y.1.2.length),(5,.c (.int .i64 y.1.1))],fob [(44,.row 143 2 (y.1.2.map Pt.cv))])) 100 (fun y=>p.length-y.1.1) ⟨(0,[]),PatSt.init p⟩ (fF) ?_;rintro⟨⟨i,out⟩,hst⟩;simp only at hst;have hi:=hst.1;have ho:=hst.2.2.1;refine aB fun K hK=>?_;refine aB fun K hK=>Rg ?_;iterate 4 refine S0 ?_
 refine T2 (hK _ _ _ ?_);clear hK K;refine aG (b:=decide ((i:Int)<p.length)) rfl (fun hb=>?_) (fun hb=>?_)
 ·
  have hlt:i<p.length:=by simpa using hb
  clear hb;have hgd:p.getD i 0=p[i]:=by simp[hlt]
  have hw1:IntKind.i64.wrap ((i:Int)+1)=((i+1:Nat):Int):=by rw[IntWalk.i64_in _ (by omega)];rfl
  have hw2:IntKind.i64.wrap (((i+1:Nat):Int)+1)=((i+2:Nat):Int):=by rw[IntWalk.i64_in _ (by omega)];rfl
  refine aJ ?_;refine T0 (hK _ _ _ ?_);clear hK K;refine aB fun K hK=>?_;refine aN ?_;refine aB fun K hK=>Rg ?_;iterate 4 refine S0 ?_ (e:=fun _ h_=>by simp only[sH,↓sP,sA,tyS,simprocAttr,Int.natCast_nonneg,Int.ofNat_lt,hlt,hgd];exact AX h_)
  refine T2 (hK _ _ _ ?_);clear hK K;refine aB fun K hK=>?_;refine R0 ?_;refine aG (b:=((p[i].toNat:Int)==0)) rfl (fun hb=>?_) (fun hb=>?_)
  ·
   have h0:p[i]=0:=bEq (d:=0) hb;refine R0 ?_;refine aE (RT Tryz.results84 ?_);have hn:fJ p=none:=by rw[hpv];exact hst.bad (aN1 hlt h0)
   refine aO [] (.slc []) (.bool false) ?_ ⟨by rw[hn];rfl,by rw[hn];rfl⟩;simp[HV.close,HV.closeL,CV.denil,CV.denilL,HV.norm,HV.toC,HV.toCL]
  have h0:p[i]≠0:=bNe (d:=0) hb;clear hb;refine aJ ?_;refine T0 (hK _ _ _ ?_);clear hK K;refine R0 ?_;refine aN ?_;refine R0 ?_;refine aG (b:=((p[i].toNat:Int)==92)) rfl (fun hb=>?_) (fun hb=>?_)
  ·
   have h92:p[i]=92:=bEq (d:=92) hb;clear hb;refine aB fun K hK=>?_;by_cases hi1:i+1<p.length
   ·
    by_cases h10:p[i+1]=0
    ·
     have hne:((((i+1:Nat):Int))==((p.length:Nat):Int))=false:=by rw[beq_eq_false_iff_ne];omega
     have hg1:p.getD (i+1) 0=p[i+1]:=by simp[hi1]
     have hd0:((p[i+1].toNat:Int)==0)=true:=by rw[h10];rfl
     refine aB fun K hK=>Rg ?_;iterate 12 refine S0 ?_ (e:=fun _ h_=>by simp only[sH,↓sP,sA,tyS,simprocAttr,Int.natCast_nonneg,Int.ofNat_lt,hlt,hgd,hw1,hne,hi1,hg1,hd0];exact AX h_)
     refine T2 (hK _ _ _ ?_);clear hK K;refine CT rfl ?_;refine R0 ?_;refine aE (RT Tryz.results84 ?_);have hn:fJ p=none:=by rw[hpv];exact hst.bad (bH3 hi1 h92 h10)
     refine aO [] (.slc []) (.bool false) ?_ ⟨by rw[hn];rfl,by rw[hn];rfl⟩;simp[HV.close,HV.closeL,CV.denil,CV.denilL,HV.norm,HV.toC,HV.toCL]
    have hne:((((i+1:Nat):Int))==((p.length:Nat):Int))=false:=by rw[beq_eq_false_iff_ne];omega
    have hg1:p.getD (i+1) 0=p[i+1]:=by simp[hi1]
    have hd0:((p[i+1].toNat:Int)==0)=false:=by rw[show(0:Int)=((0:UInt8).toNat:Int)from rfl,bI6];simpa using h10
    refine aB fun K hK=>Rg ?_;iterate 12 refine S0 ?_ (e:=fun _ h_=>by simp only[sH,↓sP,sA,tyS,simprocAttr,Int.natCast_nonneg,Int.ofNat_lt,hlt,hgd,hw1,hne,hi1,hg1,hd0];exact AX h_)
    refine T2 (hK _ _ _ ?_);clear hK K;refine CF rfl ?_;refine aJ ?_;refine T0 (hK _ _ _ ?_);clear hK K;have F:=hw1;refine RF ?_;refine Rg ?_;iterate 8 refine S0 ?_ (e:=fun _ h_=>by simp only[sH,↓sP,sA,tyS,simprocAttr,Int.natCast_nonneg,Int.ofNat_lt,hlt,hgd,hi1,hg1,List.length_append,List.length_map];exact AX h_)
    refine T2 (hK _ _ _ ?_);clear hK K;refine aK (by kernel_rfl) ?_;refine TQ hw2 ?_;refine⟨⟨(i+2,out++[⟨0,p[i+1]⟩]),hst.step (k:=2) (by omega) (by omega) (by simp) (aN0 hi1 h92 h10)⟩,aM (by omega) ?_ ?_,?_⟩
    · simp[aZ,upd_at,fin_at,HV.men]
    · simp only[bA,List.map_append];exact⟨rfl,by omega,trivial,trivial⟩
    show p.length-(i+2)<p.length-i;omega
   have hie:i+1=p.length:=by omega
   have hne:((((i+1:Nat):Int))==((p.length:Nat):Int))=true:=by rw[hie];simp
   refine aB fun K hK=>Rg ?_;iterate 12 refine S0 ?_ (e:=fun _ h_=>by simp only[sH,↓sP,sA,tyS,simprocAttr,Int.natCast_nonneg,Int.ofNat_lt,hlt,hgd,hw1,hne];exact AX h_)
   refine T2 (hK _ _ _ ?_);clear hK K;refine CT rfl ?_;refine R0 ?_;refine aE (RT Tryz.results84 ?_);have hn:fJ p=none:=by rw[hpv];exact hst.bad (zZ hlt h92 hie)
   refine aO [] (.slc []) (.bool false) ?_ ⟨by rw[hn];rfl,by rw[hn];rfl⟩;simp[HV.close,HV.closeL,CV.denil,CV.denilL,HV.norm,HV.toC,HV.toCL]
  have h92:p[i]≠92:=bNe (d:=92) hb;clear hb;refine R0 ?_;refine aG (b:=((p[i].toNat:Int)==42)) rfl (fun hb=>?_) (fun hb=>?_)
  ·
   have h42:p[i]=42:=bEq (d:=42) hb;clear hb;by_cases hi1:i+1<p.length
   ·
    by_cases h43:p[i+1]=42
    ·
     have hg1:p.getD (i+1) 0=p[i+1]:=by simp[hi1]
     have hd43:((p[i+1].toNat:Int)==42)=true:=by rw[h43];rfl
     refine aB fun K hK=>Rg ?_;iterate 12 refine S0 ?_ (e:=fun _ h_=>by simp only[sH,↓sP,sA,tyS,simprocAttr,Int.natCast_nonneg,Int.ofNat_lt,hlt,hgd,hw1,hi1,hg1,hd43,decide_true];exact AX h_)
     refine T2 (hK _ _ _ ?_);clear hK K;refine CT rfl ?_;have F:=hw1;refine RF ?_;refine Rg ?_;have F:=aI @List.length_append.{0} @List.length_map.{0,0};iterate 5 refine SF ?_
     refine T2 (hK _ _ _ ?_);clear hK K;refine aK (by kernel_rfl) ?_;refine TQ hw2 ?_;refine⟨⟨(i+2,out++[⟨3,0⟩]),hst.step (k:=2) (by omega) (by omega) (by simp) (bB9 hi1 h42 h43)⟩,aM (by omega) ?_ ?_,?_⟩
     · simp[aZ,upd_at,fin_at,HV.men]
     · simp only[bA,List.map_append];exact⟨rfl,by omega,trivial,trivial⟩
     show p.length-(i+2)<p.length-i;omega
    have hg1:p.getD (i+1) 0=p[i+1]:=by simp[hi1]
    have hd43:((p[i+1].toNat:Int)==42)=false:=by rw[show(42:Int)=((42:UInt8).toNat:Int)from rfl,bI6];simpa using h43
    refine aB fun K hK=>Rg ?_;iterate 12 refine S0 ?_ (e:=fun _ h_=>by simp only[sH,↓sP,sA,tyS,simprocAttr,Int.natCast_nonneg,Int.ofNat_lt,hlt,hgd,hw1,hi1,hg1,hd43,decide_true];exact AX h_)
    refine T2 (hK _ _ _ ?_);clear hK K;refine CF rfl ?_;refine Rg ?_;have F:=aI @List.length_append.{0} @List.length_map.{0,0};iterate 5 refine SF ?_
    refine T2 (hK _ _ _ ?_);clear hK K;refine aK (by kernel_rfl) ?_;refine TQ hw1 ?_;refine⟨⟨(i+1,out++[⟨2,0⟩]),hst.step (k:=1) (by omega) (by omega) (by simp) (aF8 hlt h42 fun _=>h43)⟩,aM (by omega) ?_ ?_,?_⟩
    · simp[aZ,upd_at,fin_at,HV.men]
    · simp only[bA,List.map_append];exact⟨rfl,by omega,trivial,trivial⟩
    show p.length-(i+1)<p.length-i;omega
   have hdi:decide (((i+1:Nat):Int)<((p.length:Nat):Int))=false:=by simp;omega
   refine aB fun K hK=>Rg ?_;have F:=aI hw1 hdi;iterate 12 refine SF ?_
   refine T2 (hK _ _ _ ?_);clear hK K;refine CF rfl ?_;refine Rg ?_;have F:=aI @List.length_append.{0} @List.length_map.{0,0};iterate 5 refine SF ?_
   refine T2 (hK _ _ _ ?_);clear hK K;refine aK (by kernel_rfl) ?_;refine TQ hw1 ?_;refine⟨⟨(i+1,out++[⟨2,0⟩]),hst.step (k:=1) (by omega) (by omega) (by simp) (aF8 hlt h42 fun h=>absurd h hi1)⟩,aM (by omega) ?_ ?_,?_⟩
   · simp[aZ,upd_at,fin_at,HV.men]
   · simp only[bA,List.map_append];exact⟨rfl,by omega,trivial,trivial⟩
   show p.length-(i+1)<p.length-i;omega
  have h42:p[i]≠42:=bNe (d:=42) hb;clear hb;refine R0 ?_;refine aG (b:=((p[i].toNat:Int)==63)) rfl (fun hb=>?_) (fun hb=>?_)
  ·
   have h63:p[i]=63:=bEq (d:=63) hb;clear hb;refine Rg ?_;have F:=aI @List.length_append.{0} @List.length_map.{0,0};iterate 5 refine SF ?_
   refine T2 (hK _ _ _ ?_);clear hK K;refine aK (by kernel_rfl) ?_;refine TQ hw1 ?_;refine⟨⟨(i+1,out++[⟨1,0⟩]),hst.step (k:=1) (by omega) (by omega) (by simp) (bP7 hlt h63)⟩,aM (by omega) ?_ ?_,?_⟩
   · simp[aZ,upd_at,fin_at,HV.men]
   · simp only[bA,List.map_append];exact⟨rfl,by omega,trivial,trivial⟩
   show p.length-(i+1)<p.length-i;omega
  have h63:p[i]≠63:=bNe (d:=63) hb;clear hb;refine Rg ?_;iterate 6 refine S0 ?_ (e:=fun _ h_=>by simp only[sH,↓sP,sA,tyS,simprocAttr,Int.natCast_nonneg,Int.ofNat_lt,hlt,hgd,List.length_append,List.length_map];exact AX h_)
  refine T2 (hK _ _ _ ?_);clear hK K;refine aK (by kernel_rfl) ?_;refine TQ hw1 ?_;refine⟨⟨(i+1,out++[⟨0,p[i]⟩]),hst.step (k:=1) (by omega) (by omega) (by simp) (bP8 hlt h0 h92 h63 h42)⟩,aM (by omega) ?_ ?_,?_⟩
  · simp[aZ,upd_at,fin_at,HV.men]
  · simp only[bA,List.map_append];exact⟨rfl,by omega,trivial,trivial⟩
  show p.length-(i+1)<p.length-i;omega
 refine bJ (T3 ?_);clear hK K;refine AX (hK _ _ _ ?_);clear hK K;have hei:i=p.length:=by simp at hb;omega
 have hfin:fJ p=some out:=by rw[hpv];exact hst.fin hei
 refine R0 ?_;refine aE (RT Tryz.results84 ?_);refine aO [44] (.slc (out.map Pt.cv)) (.bool true) ?_ ⟨by rw[hfin];rfl,by rw[hfin];rfl⟩;simp[HV.close,fob_at,upd_at,HV.norm,HV.toC,HV.closeL,HV.toCL,CV.denil,denilL_Pt]
end Go.Proofs.YtlldglbooaefhaaGreatDoor
namespace Go.Pl
open Go Go.Hl
def rX (c:UInt8)(l:aF):aF:=match l.findIdx? (· ==c)with|some i=>l.take i|none=>l
def xT (c:UInt8)(l:aF):aF:=match l.findIdx? (· ==c)with|some i=>l.drop (i+1)|none=>[]
def vD (c:UInt8)(l:aF):Bool:=(l.findIdx? (· ==c)).isSome
variable {l:aF}{c:UInt8}
theorem rY {i:Nat}(h:dO l c=(i:Int)):i<l.length∧rX c l=l.take i∧xT c l=l.drop (i+1)∧vD c l=true:=by
 unfold dO at h;cases e:l.findIdx? (· ==c)with
 |none=>grind
 |some j=>
  grind[List.findIdx?_eq_some_iff_getElem,rX,xT,vD]
theorem rZ (h:dO l c<0):rX c l=l∧xT c l=[]∧vD c l=false:=by grind[dO,rX,xT,vD]
theorem aC2 (c:UInt8)(l:aF):aS c l=if vD c l then rX c l::aS c (xT c l)else [rX c l]:=by
 by_cases h:dO l c<0;all_goals grind[rZ,nP,eC,rY]
theorem aQ6 (h:vD c l=true):(xT c l).length<l.length:=by
 by_cases h0:dO l c<0
 · simp_all[rZ]
 · obtain⟨i,hi,hil,_⟩:=eC h0;rw[(rY hi).2.2.1];grind
def PathSt (p:aF)(m:Bool)(s:aF):Prop:=s.length≤200∧(aS 47 p).all kN=if m then(aS 47 s).all kN else true
variable {p:aF}
theorem PathSt.step {s:aF}(h:PathSt p true s)(hg:kN (rX 47 s)=true):PathSt p (vD 47 s) (xT 47 s):=by
 refine⟨?_,?_⟩
 ·
  cases hf:vD 47 s with
  |true=>have:=aQ6 hf;have:=h.1;omega
  |false=>
   by_cases h0:dO s 47<0;all_goals grind[rZ,eC,rY]
 · rw[h.2,if_pos rfl,aC2 47 s];grind
theorem PathSt.bad {s:aF}(h:PathSt p true s)(hg:kN (rX 47 s)=false):(aS 47 p).all kN=false:=by
 rw[h.2,if_pos rfl,aC2 47 s];grind
theorem bU1 (h1:1≤p.length)(h2:p.length≤200)(h0:(0:UInt8)∉p):kO p=(aS 47 p).all kN:=by grind[kO]
theorem aC3 (h:p.length<1∨200<p.length):kO p=false:=by grind[kO,decide_eq_false]
theorem aX7 (h:(0:UInt8)∈p):kO p=false:=by
 unfold kO;grind
variable {w:aF}
theorem xU (h:w=[]∨w=[46]∨w=[46,46]):kN w=false:=by
 rcases h with h|h|h<;>subst h<;>rfl
theorem bK0 (h1:w≠[])(h2:w≠[46])(h3:w≠[46,46]):kN w=true:=by grind[kN]
end Go.Pl
namespace Go.Proofs.YtlldglbooaefhaaGreatDoor
open Go Go.Hl Go.Pl
set_option maxRecDepth 10000
set_option maxHeartbeats 16000000
theorem bU2 (l:aF)(c:UInt8)(hl:l.length<2^40):wX Tryz.prog 135 [.str l,.str [c]] (fun u v x=>u= .str (rX c l)∧v= .str (xT c l)∧x= .bool (vD c l)):=by
 refine FW Tryz.func135 ?_;refine R0 ?_;refine aB fun K hK=>?_;refine aB fun K hK=>Rg ?_;iterate 2 refine S0 ?_
 refine HS rfl rfl fun K' hK'=>T5 ?_;refine C2 (xI l c) ?_;rintro u rfl;refine AX (hK' _ _ ?_);clear hK' K';refine S0 ?_;refine T2 (hK _ _ _ ?_);clear hK K;refine R0 ?_;refine aG (b:=decide ((0:Int)≤dO l c)) rfl (fun hb=>?_) (fun hb=>?_)
 ·
  have hn: ¬dO l c<0:=by simp at hb;omega
  obtain⟨i,hi,hil,hsp⟩:=eC hn;obtain⟨_,c1,c2,c3⟩:=rY hi;have htd:List.take (l.length-(i+1)) (List.drop (i+1) l)=List.drop (i+1) l:=List.take_of_length_le (by simp);have hil1:i+1≤l.length:=hil;have hil0:i≤l.length:=by omega
  rw[hi];refine aB fun K hK=>QR ?_;have F:=aI @Int.natCast_nonneg (aI @Int.ofNat_le (aI @Int.sub_zero (aI @Nat.sub_zero (aI @List.drop_zero.{0} (aI hil0 (aI hil1 (aI htd (show IntKind.i64.wrap ((i:Int)+1)=((i+1:Nat):Int)from by rw[IntWalk.i64_in _ (by omega)];rfl))))))));iterate 12 refine SF ?_
  refine T2 (hK _ _ _ ?_);clear hK K;refine aE (RT Tryz.results135 ?_);exact dK [] (.str (l.take i)) (.str (l.drop (i+1))) (.bool true) rfl ⟨by rw[c1],by rw[c2],by rw[c3]⟩
 have hn:dO l c<0:=by simp at hb;omega
 obtain⟨c1,c2,c3⟩:=rZ hn;refine aJ ?_;refine T0 (hK _ _ _ ?_);clear hK K;refine aB fun K hK=>Rg ?_;iterate 4 refine S0 ?_
 refine T2 (hK _ _ _ ?_);clear hK K;refine aE (RT Tryz.results135 ?_);exact dK [] (.str l) (.str []) (.bool false) rfl ⟨by rw[c1],by rw[c2],by rw[c3]⟩
theorem cD2 (l:aF)(c:UInt8)(hl:l.length<2^40):wX Tryz.prog 113 [.str l,.str [c]] (fun u v x=>u= .str (rX c l)∧v= .str (xT c l)∧x= .bool (vD c l)):=by
 refine FW Tryz.func113 ?_;refine R0 ?_;refine aB fun K hK=>Rg ?_;iterate 2 refine S0 ?_
 refine HS rfl rfl fun K' hK'=>T5 ?_;refine mH (args:=[_,_]) (bU2 l c hl) ⟨rfl,rfl,rfl,rfl⟩ ?_;rintro u v x ⟨rfl,rfl,rfl⟩;refine AX (hK' _ _ ?_);clear hK' K';iterate 6 refine S0 ?_
 refine T2 (hK _ _ _ ?_);clear hK K;refine aE (RT Tryz.results113 ?_);exact dK [] _ _ _ rfl ⟨rfl,rfl,rfl⟩
theorem bD4 (p:aF):cF Tryz.prog 58 [.str p] (fun v=>v= .bool (fJ p).isSome):=by
 refine FW Tryz.func58 ?_;refine R0 ?_;refine aB fun K hK=>Rg ?_;refine S0 ?_;refine HS rfl rfl fun K' hK'=>T5 ?_;refine D1 (aQ5 p) ?_;rintro u v ⟨rfl,rfl⟩;refine AX (hK' _ _ ?_);clear hK' K';iterate 5 refine S0 ?_
 refine T2 (hK _ _ _ ?_);clear hK K;refine R0 ?_;refine aE (RT Tryz.results58 ?_);exact aH [] _ rfl rfl
theorem aQ7 (p:aF):cF Tryz.prog 60 [.str p] (fun v=>v= .bool (fJ p).isSome):=by
 refine FW Tryz.func60 ?_;refine R0 ?_;refine aB fun K hK=>Rg ?_;refine S0 ?_;refine HS rfl rfl fun K' hK'=>T5 ?_;refine D1 (cD1 p) ?_;rintro u v ⟨rfl,rfl⟩;refine AX (hK' _ _ ?_);clear hK' K';iterate 5 refine S0 ?_
 refine T2 (hK _ _ _ ?_);clear hK K;refine R0 ?_;refine aE (RT Tryz.results60 ?_);exact aH [] _ rfl rfl
theorem bD5 (p:aF):cF Tryz.prog 96 [.str p] (fun v=>v= .bool (kO p)):=by
 refine FW Tryz.func96 ?_;refine R0 ?_;refine aB fun K hK=>?_;refine aB fun K hK=>Rg ?_;iterate 4 refine S0 ?_
 refine aD 7 rfl (fun h1_7=>?_) (fun h1_7=>?_)
 ·
  have F:=h1_7;iterate 9 refine SF ?_
  refine T2 (hK _ _ _ ?_);clear hK K;refine CT rfl ?_;refine R0 ?_;refine aE (RT Tryz.results96 ?_);exact aH [] (.bool false) rfl (by rw[aC3 (by simp at h1_7;omega)])
 have F:=h1_7;iterate 5 refine SF ?_
 refine aD 11 rfl (fun h1_11=>?_) (fun h1_11=>?_)
 ·
  clear F;have F:=aI h1_7 h1_11;iterate 4 refine SF ?_
  refine T2 (hK _ _ _ ?_);clear hK K;refine CT rfl ?_;refine R0 ?_;refine aE (RT Tryz.results96 ?_);exact aH [] (.bool false) rfl (by rw[aC3 (by simp at h1_11;omega)])
 clear F;have F:=aI h1_7 h1_11;refine SF ?_;refine aP (g:=some (13,false)) rfl rfl fun K' hK'=>T6 ?_;refine C2 (rP p 0) ?_;rintro u rfl;refine AX (hK' _ _ ?_);clear hK' K';iterate 2 refine SF ?_
 refine aD 16 rfl (fun h1_16=>?_) (fun h1_16=>?_)
 · simp only[h1_16];refine T2 (hK _ _ _ ?_);clear hK K;refine CT rfl ?_;refine R0 ?_;refine aE (RT Tryz.results96 ?_);exact aH [] (.bool false) rfl (by rw[aX7 (aQ4 (by simpa using h1_16))])
 simp only[h1_16];refine T2 (hK _ _ _ ?_);clear hK K;refine CF rfl ?_;refine aJ ?_;refine T0 (hK _ _ _ ?_);clear hK K;refine aB fun K hK=>?_;have hl:p.length≤200:=by simp at h1_11;omega
 have hpv:=bU1 (p:=p) (by simp at h1_7;omega) hl (uR (by simpa using h1_16));clear h1_7 h1_11 h1_16;refine R0 ?_;refine aN ?_;refine bR (α:={y:Bool×aF//PathSt p y.1 y.2}) (fun y=>(fin [(0,.c (.str y.1.2)),(3,.c (.bool y.1.1))],fob [])) 100 (fun y=>if y.1.1 then y.1.2.length+1 else 0) ⟨(true,p),hl,by simp⟩ (fF) ?_;rintro⟨⟨m,s⟩,hst⟩;simp only at hst;have hs:=hst.1;refine aB fun K hK=>?_;refine R0 ?_;refine aG (b:=m) rfl (fun hb=>?_) (fun hb=>?_)
 ·
  subst hb;refine aJ ?_;refine T0 (hK _ _ _ ?_);clear hK K;refine aN ?_;refine R0 ?_;refine aB fun K hK=>Rg ?_;refine S0 ?_;refine HS rfl rfl fun K' hK'=>T5 ?_;refine mH (args:=[_,_]) (cD2 s 47 (by omega)) ⟨rfl,rfl,rfl,rfl⟩ ?_;rintro u v x ⟨rfl,rfl,rfl⟩;refine AX (hK' _ _ ?_);clear hK' K';iterate 7 refine S0 ?_
  refine T2 (hK _ _ _ ?_);clear hK K;refine aB fun K hK=>Rg ?_;iterate 3 refine S0 ?_
  refine aD 26 rfl (fun h7_26=>?_) (fun h7_26=>?_)
  ·
   clear F;have F:=h7_26;iterate 7 refine SF ?_
   refine T2 (hK _ _ _ ?_);clear hK K;refine CT rfl ?_;refine R0 ?_;refine aE (RT Tryz.results96 ?_);have hg:kN (rX 47 s)=false:=xU (.inl (eq_of_beq h7_26));exact aH [] (.bool false) rfl (by rw[hpv,hst.bad hg])
  clear F;have F:=h7_26;iterate 4 refine SF ?_
  refine aD 29 rfl (fun h7_29=>?_) (fun h7_29=>?_)
  ·
   clear F;have F:=aI h7_26 h7_29;iterate 3 refine SF ?_
   refine T2 (hK _ _ _ ?_);clear hK K;refine CT rfl ?_;refine R0 ?_;refine aE (RT Tryz.results96 ?_);have hg:kN (rX 47 s)=false:=xU (.inr (.inl (eq_of_beq h7_29)));exact aH [] (.bool false) rfl (by rw[hpv,hst.bad hg])
  clear F;have F:=aI h7_26 h7_29;iterate 3 refine SF ?_
  refine aD 33 rfl (fun h7_33=>?_) (fun h7_33=>?_)
  · simp only[h7_33];refine T2 (hK _ _ _ ?_);clear hK K;refine CT rfl ?_;refine R0 ?_;refine aE (RT Tryz.results96 ?_);have hg:kN (rX 47 s)=false:=xU (.inr (.inr (eq_of_beq h7_33)));exact aH [] (.bool false) rfl (by rw[hpv,hst.bad hg])
  simp only[h7_33];refine T2 (hK _ _ _ ?_);clear hK K;refine CF rfl ?_;refine aJ (T3 ?_);have hg:kN (rX 47 s)=true:=bK0 (by simpa using h7_26) (by simpa using h7_29) (by simpa using h7_33);refine⟨⟨(vD 47 s,xT 47 s),hst.step hg⟩,fF,?_⟩;show(if vD 47 s=true then(xT 47 s).length+1 else 0)<if true=true then s.length+1 else 0
  rw[if_pos rfl];split
  · rename_i h;have:=aQ6 h;omega
  omega
 subst hb;refine bJ (T3 ?_);clear hK K;refine AX (hK _ _ _ ?_);clear hK K;refine R0 ?_;refine aE (RT Tryz.results96 ?_);exact aH [] (.bool true) rfl (by rw[hpv,hst.2];rfl)
theorem cS1 :lst []=dE:=by funext j;simp[lst,dE]
theorem cD3 (x:Pt)(c:UInt8):cN2 Tryz.prog 114 140 x.cv [u8 c] (fun v=>v= .bool (c==x.c)):=by
 show HFn _ _ [.c (u8 c),.ptr 0 0] 1 _ _;refine cL (args:=[.c (u8 c),.ptr 0 0]) Tryz.func114 rfl (by kernel_rfl) (zT _ _ [u8 c]) (Nat.le_of_ble_eq_true rfl) ?_;refine R0 ?_;refine aB fun K hK=>Rg ?_;have F:=aI @Pt.get_c @bI6;iterate 5 refine SF ?_
 refine T2 (hK _ _ _ ?_);clear hK K;refine aE (RT Tryz.results114 ?_);refine aV3 [] (.bool (c==x.c)) x.cv rfl rfl (by simp[HV.close,HV.norm,HV.toC,Pt.denil]) (by simp) rfl rfl
theorem bK1 (x:Pt)(hk:x.k=0):HGe Tryz.prog 97 [.c x.cv] [] (fun r os=>r= .clo 114 [.ptr 0 0]∧os=[.box 140 (.c x.cv)]):=by
 show HFn _ _ [.c x.cv] 0 (lst []) _;rw[cS1];refine cL (args:=[.c x.cv]) Tryz.func97 rfl (by kernel_rfl) (jP [x.cv]) (Nat.le_of_ble_eq_true rfl) ?_;have hd0:((x.k:Int)==0)=true:=by rw[hk];rfl
 have F:=aI @Pt.cells (aI @Pt.isAgg @Pt.getAll);refine RF ?_;refine aB fun K hK=>?_;have F:=@Pt.get_k;refine RF ?_;refine aN ?_;have F:=hd0;refine RF ?_;refine CT rfl ?_;refine R0 ?_;refine aE (RT Tryz.results97 ?_);refine eN [] [0] (.clo 114 [.ptr 0 0]) [.box 140 (.c x.cv)] rfl ?_ ?_ rfl (by simp) (by simp) (by simp) ⟨rfl,rfl⟩
 · simp[HV.men,HV.menL]
 refine⟨⟨by simp[HO.men,HV.men],by simp,.box 140 (.c x.cv),rfl,?_⟩,trivial⟩;simp[fK,HV.close,HV.norm,HV.toC,Pt.denil,HO.ren,HV.ren]
theorem bK2 (x:Pt)(hk:x.k=3):cF Tryz.prog 97 [x.cv] (fun v=>v= .fn 115):=by
 refine FW Tryz.func97 ?_;have hd0:((x.k:Int)==0)=false:=by rw[hk];rfl
 have hd3:((x.k:Int)==3)=true:=by rw[hk];rfl
 have F:=aI @Pt.cells (aI @Pt.isAgg @Pt.getAll);refine RF ?_;refine aB fun K hK=>?_;have F:=@Pt.get_k;refine RF ?_;refine aN ?_;have F:=hd0;refine RF ?_;refine CF rfl ?_;have F:=hd3;refine RF ?_;refine CT rfl ?_;refine R0 ?_;refine aE (RT Tryz.results97 ?_);exact aH [] (.fn 115) rfl rfl
theorem aC4 (x:Pt)(hk:x.k=1∨x.k=2):cF Tryz.prog 97 [x.cv] (fun v=>v= .fn 116):=by
 refine FW Tryz.func97 ?_;have hd0:((x.k:Int)==0)=false:=by rcases hk with h|h<;>rw[h]<;>rfl
 have hd3:((x.k:Int)==3)=false:=by rcases hk with h|h<;>rw[h]<;>rfl
 have F:=aI @Pt.cells (aI @Pt.isAgg @Pt.getAll);refine RF ?_;refine aB fun K hK=>?_;have F:=@Pt.get_k;refine RF ?_;refine aN ?_;have F:=hd0;refine RF ?_;refine CF rfl ?_;have F:=hd3;refine RF ?_;refine CF rfl ?_;refine aJ ?_;refine T0 (hK _ _ _ ?_);clear hK K;refine R0 ?_;refine aE (RT Tryz.results97 ?_);exact aH [] (.fn 116) rfl rfl
end Go.Proofs.YtlldglbooaefhaaGreatDoor
namespace Go.Pl
open Go Go.Hl
variable {ps:List Pt}{p:aF}
theorem bK3 (h:fJ p=some ps):ps.length≤200∧ ∀x∈ps,x.k≤3:=by
 unfold fJ at h;split at h
 · cases h
 · rename_i hl;obtain⟨h1,h2⟩:=bB8 p.length p ps (Nat.le_refl _) h;grind
variable {s:aF}
theorem aQ8 (h:fJ p=none):mG p s=false:=by unfold mG;rw[h]
theorem aQ9 (h:kO s=false):mG p s=false:=by grind[mG]
theorem aR0 (h:fJ p=some ps)(hs:kO s=true):mG p s=mD ps s ps.length s.length:=by grind[mG]
theorem bK4 (h:kO s=true):s.length≤200:=by simp_all[kO,Bool.and_eq_true,decide_eq_true_eq]
def cJ (n:Nat)(f:Nat→Bool):List CV:=(tab n f).map bC1
theorem bD (n:Nat)(f:Nat→Bool):(cJ n f).length=n:=by simp[cJ,mM]
variable {i n:Nat}
theorem bG {f:Nat→Bool}(h:i<n):nth (cJ n f) i= .bool (f i):=cB6 h
theorem bK5 (n:Nat):List.replicate n (CV.bool false)=cJ n (fun _=>false):=by
 unfold cJ;rw[←bI5];simp[bC1]
theorem xV (n:Nat)(f:Nat→Bool)(i:Nat)(b:Bool):(cJ n f).set i (.bool b)=cJ n (fun j=>if j=i then b else f j):=by
 unfold cJ;rw[←cB5,List.map_set];rfl
theorem iU (n:Nat)(f:Nat→Bool):CV.denilL (cJ n f)=cJ n f:=cT (fun x=>by simp[bC1,CV.denil]) _
theorem bK6 {ps:List Pt}{s:aF}:(cJ n (fun _=>false)).set 0 (.bool true)=cJ n (fun j=>if j=0 then true else false):=xV _ _ _ _
variable {b:Bool}{k:Nat}
theorem iV (hb:b=(mD ps s k 0&&(prt ps k).long)):(cJ n (fun _=>false)).set 0 (.bool b)=cJ n (nxt ps s k 0):=by
 rw[xV,hb];congr 1;grind[bQ9]
theorem gL (hb:b=mD ps s (k+1) (i+1)):(cJ n (nxt ps s k i)).set (i+1) (.bool b)=cJ n (nxt ps s k (i+1)):=by simp_all[xV,bR0]
theorem vP :cJ (s.length+1) (nxt ps s k s.length)=cJ (s.length+1) (mD ps s (k+1)):=by
 unfold cJ;rw[cB7]
theorem bU3 :cJ (s.length+1) (fun j=>if j=0 then true else false)=cJ (s.length+1) (mD ps s 0):=by
 unfold cJ;rw[bR1]
theorem cD4 (h:k<ps.length):prt ps k=ps[k]:=by simp[prt,h]
end Go.Pl
