/- Plain Lean: the rows of Match as the walks see them. By an AI agent. -/
import Derived.Test.YtlldglbooaefhaaGreatDoorHzU1
import Derived.Test.YtlldglbooaefhaaGreatDoorPl11w
import Derived.Test.YtlldglbooaefhaaGreatDoorHlTlaw
import Derived.Test.YtlldglbooaefhaaGreatDoorPl03c
set_option linter.unusedSimpArgs false
set_option linter.unusedVariables false
set_option linter.defProp false
namespace Go.Proofs.YtlldglbooaefhaaGreatDoor
open Go Go.Hl Go.Pl
set_option maxRecDepth 10000
set_option maxHeartbeats 16000000
theorem aQ7 (p:aF):gT Tryz.prog 83 [.str p] (fun u v=>u= .slc (((fL p).getD []).map Pt.cv)∧v= .bool (fL p).isSome):=by
 refine FW Tryz.func83 ?_;refine R0 ?_;refine aB fun K hK=>?_;refine aB fun K hK=>Rg ?_;iterate 4 refine S0 ?_
 refine aD 8 rfl (fun h1_8=>?_) (fun h1_8=>?_)
 ·
  have F:=h1_8;iterate 9 refine SF ?_
  refine T2 (hK _ _ _ ?_);clear hK K;refine CT rfl ?_;refine R0 ?_;refine aE (RT Tryz.results83 ?_);have hn:fL p=none:=rY (by simp at h1_8;omega);refine aO [] (.slc []) (.bool false) ?_ ⟨by rw[hn];rfl,by rw[hn];rfl⟩;simp[HV.close,HV.closeL,CV.denil,CV.denilL,HV.norm,HV.toC,HV.toCL]
 have F:=h1_8;iterate 5 refine SF ?_
 refine aD 12 rfl (fun h1_12=>?_) (fun h1_12=>?_)
 ·
  have F:=aI h1_8 h1_12;iterate 4 refine SF ?_
  refine T2 (hK _ _ _ ?_);clear hK K;refine CT rfl ?_;refine R0 ?_;refine aE (RT Tryz.results83 ?_);have hn:fL p=none:=rY (by simp at h1_12;omega);refine aO [] (.slc []) (.bool false) ?_ ⟨by rw[hn];rfl,by rw[hn];rfl⟩;simp[HV.close,HV.closeL,CV.denil,CV.denilL,HV.norm,HV.toC,HV.toCL]
 have F:=aI h1_8 h1_12;refine SF ?_;refine aP (g:=some (14,false)) rfl rfl fun K' hK'=>T6 ?_;refine C2 (rR p 0) ?_;rintro u rfl;refine AX (hK' _ _ ?_);clear hK' K';iterate 2 refine SF ?_
 refine aD 17 rfl (fun h1_17=>?_) (fun h1_17=>?_)
 ·
  simp only[h1_17];refine T2 (hK _ _ _ ?_);clear hK K;refine CT rfl ?_;refine R0 ?_;refine aE (RT Tryz.results83 ?_);have hn:fL p=none:=by
   rw[aH3 (by simp at h1_8;omega) (by simp at h1_12;omega)];exact jR p.length p (Nat.le_refl _) (aQ6 (by simpa using h1_17))
  refine aO [] (.slc []) (.bool false) ?_ ⟨by rw[hn];rfl,by rw[hn];rfl⟩;simp[HV.close,HV.closeL,CV.denil,CV.denilL,HV.norm,HV.toC,HV.toCL]
 simp only[h1_17];refine T2 (hK _ _ _ ?_);clear hK K;refine CF rfl ?_;refine aJ ?_;refine T0 (hK _ _ _ ?_);clear hK K;have hpv:=aH3 (p:=p) (by simp at h1_8;omega) (by simp at h1_12;omega);have hl:p.length≤200:=by simp at h1_12;omega
 have hz0:(0:UInt8)∉p:=uS (by simpa using h1_17);have hz: ∀(i:Nat) (h:i<p.length),p[i]≠0:=fun i h e=>hz0 (e▸List.getElem_mem h);clear h1_8 h1_12 h1_17;refine R0 ?_;refine aB fun K hK=>?_;refine R0 ?_;refine aN ?_;refine kC 4 0 140 2 rfl rfl rfl rfl ?_;refine bS (α:={y:Nat×List Pt//PatSt p y.1 y.2}) (fun y=>(fin [(0,.c (.str p)),(4,.own 68 y.1.2.length),(5,.c (.int .i64 y.1.1))],fob [(68,.row 140 2 (y.1.2.map Pt.cv))])) 100 (fun y=>p.length-y.1.1) ⟨(0,[]),PatSt.init p⟩ (fF) ?_;rintro⟨⟨i,out⟩,hst⟩;simp only at hst;have hi:=hst.1;have ho:=hst.2.2.1;refine aB fun K hK=>?_;refine aB fun K hK=>Rg ?_;iterate 4 refine S0 ?_
 refine T2 (hK _ _ _ ?_);clear hK K;refine aG (b:=decide ((i:Int)<p.length)) rfl (fun hb=>?_) (fun hb=>?_)
 ·
  have hlt:i<p.length:=by simpa using hb
  clear hb;have hgd:p.getD i 0=p[i]:=by simp[hlt]
  have hw1:IntKind.i64.wrap ((i:Int)+1)=((i+1:Nat):Int):=by rw[IntWalk.i64_in _ (by omega)];rfl
  have hw2:IntKind.i64.wrap (((i+1:Nat):Int)+1)=((i+2:Nat):Int):=by rw[IntWalk.i64_in _ (by omega)];rfl
  refine aJ ?_;refine T0 (hK _ _ _ ?_);clear hK K;refine aB fun K hK=>?_;refine aN ?_;refine aN ?_;refine aB fun K hK=>Rg ?_;iterate 5 refine S0 ?_ (e:=fun _ h_=>by simp only[sH,↓sP,sA,tyS,simprocAttr,Int.natCast_nonneg,Int.ofNat_lt,hlt,hgd];exact AX h_)
  refine T2 (hK _ _ _ ?_);clear hK K;refine aG (b:=((p[i].toNat:Int)==92)) rfl (fun hb=>?_) (fun hb=>?_)
  ·
   have h92:p[i]=92:=bEq (d:=92) hb;clear hb;have F:=hw1;refine RF ?_;refine aB fun K hK=>?_;refine aB fun K hK=>Rg ?_;iterate 4 refine S0 ?_
   refine T2 (hK _ _ _ ?_);clear hK K;refine aG (b:=(((i+1:Nat):Int)==((p.length:Nat):Int))) rfl (fun hb=>?_) (fun hb=>?_)
   ·
    have hie:i+1=p.length:=by have:=eq_of_beq hb;omega
    refine R0 ?_;refine aE (RT Tryz.results83 ?_);have hn:fL p=none:=by rw[hpv];exact hst.bad (aA0 hlt h92 hie)
    refine aO [] (.slc []) (.bool false) ?_ ⟨by rw[hn];rfl,by rw[hn];rfl⟩;simp[HV.close,HV.closeL,CV.denil,CV.denilL,HV.norm,HV.toC,HV.toCL]
   have hi1:i+1<p.length:=by
    have: ¬i+1=p.length:=by rintro e;rw[e]at hb;simp at hb
    omega
   clear hb;have hg1:p.getD (i+1) 0=p[i+1]:=by simp[hi1]
   refine aJ ?_;refine T0 (hK _ _ _ ?_);clear hK K;refine Rg ?_;have F:=aI @Int.natCast_nonneg (aI @Int.ofNat_lt (aI hi1 (aI hg1 (aI @List.length_append.{0} @List.length_map.{0,0}))));iterate 8 refine SF ?_
   refine T2 (hK _ _ _ ?_);clear hK K;refine aK (by kernel_rfl) ?_;refine TQ hw2 ?_;refine⟨⟨(i+2,out++[⟨0,p[i+1]⟩]),hst.step (k:=2) (by omega) (by omega) (by simp) (aN2 hi1 h92 (hz (i+1) hi1))⟩,aL (by omega) ?_ ?_,?_⟩
   · simp[aY,upd_at,fin_at,HV.men]
   · simp only[aZ,List.map_append];exact⟨rfl,by omega,trivial,trivial⟩
   show p.length-(i+2)<p.length-i;omega
  have h92:p[i]≠92:=bNe (d:=92) hb;clear hb;refine aB fun K hK=>Rg ?_;iterate 5 refine S0 ?_ (e:=fun _ h_=>by simp only[sH,↓sP,sA,tyS,simprocAttr,Int.natCast_nonneg,Int.ofNat_lt,hlt,hgd];exact AX h_)
  refine T2 (hK _ _ _ ?_);clear hK K;refine aG (b:=((p[i].toNat:Int)==63)) rfl (fun hb=>?_) (fun hb=>?_)
  ·
   have h63:p[i]=63:=bEq (d:=63) hb;clear hb;refine Rg ?_;have F:=aI @List.length_append.{0} @List.length_map.{0,0};iterate 5 refine SF ?_
   refine T2 (hK _ _ _ ?_);clear hK K;refine aK (by kernel_rfl) ?_;refine TQ hw1 ?_;refine⟨⟨(i+1,out++[⟨1,0⟩]),hst.step (k:=1) (by omega) (by omega) (by simp) (bQ1 hlt h63)⟩,aL (by omega) ?_ ?_,?_⟩
   · simp[aY,upd_at,fin_at,HV.men]
   · simp only[aZ,List.map_append];exact⟨rfl,by omega,trivial,trivial⟩
   show p.length-(i+1)<p.length-i;omega
  have h63:p[i]≠63:=bNe (d:=63) hb;clear hb;by_cases h42:p[i]=42
  ·
   by_cases hi1:i+1<p.length
   ·
    by_cases h43:p[i+1]=42
    ·
     have hd42:((p[i].toNat:Int)==42)=true:=by rw[h42];rfl
     have hg1:p.getD (i+1) 0=p[i+1]:=by simp[hi1]
     have hd43:((p[i+1].toNat:Int)==42)=true:=by rw[h43];rfl
     refine aB fun K hK=>Rg ?_;iterate 19 refine S0 ?_ (e:=fun _ h_=>by simp only[sH,↓sP,sA,tyS,simprocAttr,Int.natCast_nonneg,Int.ofNat_lt,hlt,hgd,hw1,hi1,hg1,hd42,hd43,decide_true];exact AX h_)
     refine T2 (hK _ _ _ ?_);clear hK K;refine CT rfl ?_;have F:=hw1;refine RF ?_;refine Rg ?_;have F:=aI @List.length_append.{0} @List.length_map.{0,0};iterate 5 refine SF ?_
     refine T2 (hK _ _ _ ?_);clear hK K;refine aK (by kernel_rfl) ?_;refine TQ hw2 ?_;refine⟨⟨(i+2,out++[⟨3,0⟩]),hst.step (k:=2) (by omega) (by omega) (by simp) (bC0 hi1 h42 h43)⟩,aL (by omega) ?_ ?_,?_⟩
     · simp[aY,upd_at,fin_at,HV.men]
     · simp only[aZ,List.map_append];exact⟨rfl,by omega,trivial,trivial⟩
     show p.length-(i+2)<p.length-i;omega
    have hd42:((p[i].toNat:Int)==42)=true:=by rw[h42];rfl
    have hg1:p.getD (i+1) 0=p[i+1]:=by simp[hi1]
    have hd43:((p[i+1].toNat:Int)==42)=false:=by rw[show(42:Int)=((42:UInt8).toNat:Int)from rfl,bI7];simpa using h43
    refine aB fun K hK=>Rg ?_;iterate 19 refine S0 ?_ (e:=fun _ h_=>by simp only[sH,↓sP,sA,tyS,simprocAttr,Int.natCast_nonneg,Int.ofNat_lt,hlt,hgd,hw1,hi1,hg1,hd42,hd43,decide_true];exact AX h_)
    refine T2 (hK _ _ _ ?_);clear hK K;refine CF rfl ?_;refine aB fun K hK=>Rg ?_;iterate 5 refine S0 ?_ (e:=fun _ h_=>by simp only[sH,↓sP,sA,tyS,simprocAttr,Int.natCast_nonneg,Int.ofNat_lt,hlt,hgd,hd42];exact AX h_)
    refine T2 (hK _ _ _ ?_);clear hK K;refine CT rfl ?_;refine Rg ?_;have F:=aI @List.length_append.{0} @List.length_map.{0,0};iterate 5 refine SF ?_
    refine T2 (hK _ _ _ ?_);clear hK K;refine aK (by kernel_rfl) ?_;refine TQ hw1 ?_;refine⟨⟨(i+1,out++[⟨2,0⟩]),hst.step (k:=1) (by omega) (by omega) (by simp) (aF9 hlt h42 fun _=>h43)⟩,aL (by omega) ?_ ?_,?_⟩
    · simp[aY,upd_at,fin_at,HV.men]
    · simp only[aZ,List.map_append];exact⟨rfl,by omega,trivial,trivial⟩
    show p.length-(i+1)<p.length-i;omega
   have hd42:((p[i].toNat:Int)==42)=true:=by rw[h42];rfl
   have hdi:decide (((i+1:Nat):Int)<((p.length:Nat):Int))=false:=by simp;omega
   refine aB fun K hK=>Rg ?_;iterate 19 refine S0 ?_ (e:=fun _ h_=>by simp only[sH,↓sP,sA,tyS,simprocAttr,Int.natCast_nonneg,hdi,hlt,hgd,hw1,hd42];exact AX h_)
   refine T2 (hK _ _ _ ?_);clear hK K;refine CF rfl ?_;refine aB fun K hK=>Rg ?_;iterate 5 refine S0 ?_ (e:=fun _ h_=>by simp only[sH,↓sP,sA,tyS,simprocAttr,Int.natCast_nonneg,Int.ofNat_lt,hlt,hgd,hd42];exact AX h_)
   refine T2 (hK _ _ _ ?_);clear hK K;refine CT rfl ?_;refine Rg ?_;have F:=aI @List.length_append.{0} @List.length_map.{0,0};iterate 5 refine SF ?_
   refine T2 (hK _ _ _ ?_);clear hK K;refine aK (by kernel_rfl) ?_;refine TQ hw1 ?_;refine⟨⟨(i+1,out++[⟨2,0⟩]),hst.step (k:=1) (by omega) (by omega) (by simp) (aF9 hlt h42 fun h=>absurd h hi1)⟩,aL (by omega) ?_ ?_,?_⟩
   · simp[aY,upd_at,fin_at,HV.men]
   · simp only[aZ,List.map_append];exact⟨rfl,by omega,trivial,trivial⟩
   show p.length-(i+1)<p.length-i;omega
  have hd42:((p[i].toNat:Int)==42)=false:=by rw[show(42:Int)=((42:UInt8).toNat:Int)from rfl,bI7];simpa using h42
  refine aB fun K hK=>Rg ?_;iterate 19 refine S0 ?_ (e:=fun _ h_=>by simp only[sH,↓sP,sA,tyS,simprocAttr,Int.natCast_nonneg,Int.ofNat_lt,hlt,hgd,hw1,hd42];exact AX h_)
  refine T2 (hK _ _ _ ?_);clear hK K;refine CF rfl ?_;refine aB fun K hK=>Rg ?_;iterate 5 refine S0 ?_ (e:=fun _ h_=>by simp only[sH,↓sP,sA,tyS,simprocAttr,Int.natCast_nonneg,Int.ofNat_lt,hlt,hgd,hd42];exact AX h_)
  refine T2 (hK _ _ _ ?_);clear hK K;refine CF rfl ?_;refine Rg ?_;iterate 8 refine S0 ?_ (e:=fun _ h_=>by simp only[sH,↓sP,sA,tyS,simprocAttr,Int.natCast_nonneg,Int.ofNat_lt,hlt,hgd,List.length_append,List.length_map];exact AX h_)
  refine T2 (hK _ _ _ ?_);clear hK K;refine aK (by kernel_rfl) ?_;refine TQ hw1 ?_;refine⟨⟨(i+1,out++[⟨0,p[i]⟩]),hst.step (k:=1) (by omega) (by omega) (by simp) (bQ2 hlt (hz i hlt) h92 h63 h42)⟩,aL (by omega) ?_ ?_,?_⟩
  · simp[aY,upd_at,fin_at,HV.men]
  · simp only[aZ,List.map_append];exact⟨rfl,by omega,trivial,trivial⟩
  show p.length-(i+1)<p.length-i;omega
 refine bI (T3 ?_);clear hK K;refine AX (hK _ _ _ ?_);clear hK K;have hei:i=p.length:=by simp at hb;omega
 have hfin:fL p=some out:=by rw[hpv];exact hst.fin hei
 refine R0 ?_;refine aE (RT Tryz.results83 ?_);refine aO [68] (.slc (out.map Pt.cv)) (.bool true) ?_ ⟨by rw[hfin];rfl,by rw[hfin];rfl⟩;simp[HV.close,fob_at,upd_at,HV.norm,HV.toC,HV.closeL,HV.toCL,CV.denil,denilL_Pt]
theorem cD7 (p:aF):gT Tryz.prog 84 [.str p] (fun u v=>u= .slc (((fL p).getD []).map Pt.cv)∧v= .bool (fL p).isSome):=by
 refine FW Tryz.func84 ?_;refine R0 ?_;refine aB fun K hK=>?_;refine aB fun K hK=>Rg ?_;iterate 3 refine S0 ?_
 refine aD 8 rfl (fun h1_8=>?_) (fun h1_8=>?_)
 ·
  have F:=h1_8;iterate 4 refine SF ?_
  refine T2 (hK _ _ _ ?_);clear hK K;refine CT rfl ?_;refine R0 ?_;refine aE (RT Tryz.results84 ?_);have hn:fL p=none:=by
   have:p=[]:=by simpa using h1_8
   exact rY (.inl (by rw[this];simp))
  refine aO [] (.slc []) (.bool false) ?_ ⟨by rw[hn];rfl,by rw[hn];rfl⟩;simp[HV.close,HV.closeL,CV.denil,CV.denilL,HV.norm,HV.toC,HV.toCL]
 have F:=h1_8;iterate 4 refine SF ?_
 refine aD 12 rfl (fun h1_12=>?_) (fun h1_12=>?_)
 ·
  simp only[h1_12];refine T2 (hK _ _ _ ?_);clear hK K;refine CT rfl ?_;refine R0 ?_;refine aE (RT Tryz.results84 ?_);have hn:fL p=none:=by exact rY (by simp at h1_12;omega)
  refine aO [] (.slc []) (.bool false) ?_ ⟨by rw[hn];rfl,by rw[hn];rfl⟩;simp[HV.close,HV.closeL,CV.denil,CV.denilL,HV.norm,HV.toC,HV.toCL]
 simp only[h1_12];refine T2 (hK _ _ _ ?_);clear hK K;refine CF rfl ?_;refine aJ ?_;refine T0 (hK _ _ _ ?_);clear hK K;have hpl:1≤p.length:=List.length_pos_iff.2 (by simpa using h1_8);have hl:p.length≤200:=by simp at h1_12;omega
 have hpv:=aH3 hpl hl;clear h1_8 h1_12;refine R0 ?_;refine aB fun K hK=>?_;refine R0 ?_;refine aN ?_;refine kC 4 0 143 2 rfl rfl rfl rfl ?_;refine bS (α:={y:Nat×List Pt//PatSt p y.1 y.2}) (fun y=>(fin [(0,.c (.str p)),(4,.own 44 y.1.2.length),(5,.c (.int .i64 y.1.1))],fob [(44,.row 143 2 (y.1.2.map Pt.cv))])) 100 (fun y=>p.length-y.1.1) ⟨(0,[]),PatSt.init p⟩ (fF) ?_;rintro⟨⟨i,out⟩,hst⟩;simp only at hst;have hi:=hst.1;have ho:=hst.2.2.1;refine aB fun K hK=>?_;refine aB fun K hK=>Rg ?_;iterate 4 refine S0 ?_
 refine T2 (hK _ _ _ ?_);clear hK K;refine aG (b:=decide ((i:Int)<p.length)) rfl (fun hb=>?_) (fun hb=>?_)
 ·
  have hlt:i<p.length:=by simpa using hb
  clear hb;have hgd:p.getD i 0=p[i]:=by simp[hlt]
  have hw1:IntKind.i64.wrap ((i:Int)+1)=((i+1:Nat):Int):=by rw[IntWalk.i64_in _ (by omega)];rfl
  have hw2:IntKind.i64.wrap (((i+1:Nat):Int)+1)=((i+2:Nat):Int):=by rw[IntWalk.i64_in _ (by omega)];rfl
  refine aJ ?_;refine T0 (hK _ _ _ ?_);clear hK K;refine aB fun K hK=>?_;refine aN ?_;refine aB fun K hK=>Rg ?_;iterate 4 refine S0 ?_ (e:=fun _ h_=>by simp only[sH,↓sP,sA,tyS,simprocAttr,Int.natCast_nonneg,Int.ofNat_lt,hlt,hgd];exact AX h_)
  refine T2 (hK _ _ _ ?_);clear hK K;refine aB fun K hK=>?_;refine R0 ?_;refine aG (b:=((p[i].toNat:Int)==0)) rfl (fun hb=>?_) (fun hb=>?_)
  ·
   have h0:p[i]=0:=bEq (d:=0) hb;refine R0 ?_;refine aE (RT Tryz.results84 ?_);have hn:fL p=none:=by rw[hpv];exact hst.bad (aN3 hlt h0)
   refine aO [] (.slc []) (.bool false) ?_ ⟨by rw[hn];rfl,by rw[hn];rfl⟩;simp[HV.close,HV.closeL,CV.denil,CV.denilL,HV.norm,HV.toC,HV.toCL]
  have h0:p[i]≠0:=bNe (d:=0) hb;clear hb;refine aJ ?_;refine T0 (hK _ _ _ ?_);clear hK K;refine R0 ?_;refine aN ?_;refine R0 ?_;refine aG (b:=((p[i].toNat:Int)==92)) rfl (fun hb=>?_) (fun hb=>?_)
  ·
   have h92:p[i]=92:=bEq (d:=92) hb;clear hb;refine aB fun K hK=>?_;by_cases hi1:i+1<p.length
   ·
    by_cases h10:p[i+1]=0
    ·
     have hne:((((i+1:Nat):Int))==((p.length:Nat):Int))=false:=by rw[beq_eq_false_iff_ne];omega
     have hg1:p.getD (i+1) 0=p[i+1]:=by simp[hi1]
     have hd0:((p[i+1].toNat:Int)==0)=true:=by rw[h10];rfl
     refine aB fun K hK=>Rg ?_;iterate 12 refine S0 ?_ (e:=fun _ h_=>by simp only[sH,↓sP,sA,tyS,simprocAttr,Int.natCast_nonneg,Int.ofNat_lt,hlt,hgd,hw1,hne,hi1,hg1,hd0];exact AX h_)
     refine T2 (hK _ _ _ ?_);clear hK K;refine CT rfl ?_;refine R0 ?_;refine aE (RT Tryz.results84 ?_);have hn:fL p=none:=by rw[hpv];exact hst.bad (bH5 hi1 h92 h10)
     refine aO [] (.slc []) (.bool false) ?_ ⟨by rw[hn];rfl,by rw[hn];rfl⟩;simp[HV.close,HV.closeL,CV.denil,CV.denilL,HV.norm,HV.toC,HV.toCL]
    have hne:((((i+1:Nat):Int))==((p.length:Nat):Int))=false:=by rw[beq_eq_false_iff_ne];omega
    have hg1:p.getD (i+1) 0=p[i+1]:=by simp[hi1]
    have hd0:((p[i+1].toNat:Int)==0)=false:=by rw[show(0:Int)=((0:UInt8).toNat:Int)from rfl,bI7];simpa using h10
    refine aB fun K hK=>Rg ?_;iterate 12 refine S0 ?_ (e:=fun _ h_=>by simp only[sH,↓sP,sA,tyS,simprocAttr,Int.natCast_nonneg,Int.ofNat_lt,hlt,hgd,hw1,hne,hi1,hg1,hd0];exact AX h_)
    refine T2 (hK _ _ _ ?_);clear hK K;refine CF rfl ?_;refine aJ ?_;refine T0 (hK _ _ _ ?_);clear hK K;have F:=hw1;refine RF ?_;refine Rg ?_;iterate 8 refine S0 ?_ (e:=fun _ h_=>by simp only[sH,↓sP,sA,tyS,simprocAttr,Int.natCast_nonneg,Int.ofNat_lt,hlt,hgd,hi1,hg1,List.length_append,List.length_map];exact AX h_)
    refine T2 (hK _ _ _ ?_);clear hK K;refine aK (by kernel_rfl) ?_;refine TQ hw2 ?_;refine⟨⟨(i+2,out++[⟨0,p[i+1]⟩]),hst.step (k:=2) (by omega) (by omega) (by simp) (aN2 hi1 h92 h10)⟩,aL (by omega) ?_ ?_,?_⟩
    · simp[aY,upd_at,fin_at,HV.men]
    · simp only[aZ,List.map_append];exact⟨rfl,by omega,trivial,trivial⟩
    show p.length-(i+2)<p.length-i;omega
   have hie:i+1=p.length:=by omega
   have hne:((((i+1:Nat):Int))==((p.length:Nat):Int))=true:=by rw[hie];simp
   refine aB fun K hK=>Rg ?_;iterate 12 refine S0 ?_ (e:=fun _ h_=>by simp only[sH,↓sP,sA,tyS,simprocAttr,Int.natCast_nonneg,Int.ofNat_lt,hlt,hgd,hw1,hne];exact AX h_)
   refine T2 (hK _ _ _ ?_);clear hK K;refine CT rfl ?_;refine R0 ?_;refine aE (RT Tryz.results84 ?_);have hn:fL p=none:=by rw[hpv];exact hst.bad (aA0 hlt h92 hie)
   refine aO [] (.slc []) (.bool false) ?_ ⟨by rw[hn];rfl,by rw[hn];rfl⟩;simp[HV.close,HV.closeL,CV.denil,CV.denilL,HV.norm,HV.toC,HV.toCL]
  have h92:p[i]≠92:=bNe (d:=92) hb;clear hb;refine R0 ?_;refine aG (b:=((p[i].toNat:Int)==42)) rfl (fun hb=>?_) (fun hb=>?_)
  ·
   have h42:p[i]=42:=bEq (d:=42) hb;clear hb;by_cases hi1:i+1<p.length
   ·
    by_cases h43:p[i+1]=42
    ·
     have hg1:p.getD (i+1) 0=p[i+1]:=by simp[hi1]
     have hd43:((p[i+1].toNat:Int)==42)=true:=by rw[h43];rfl
     refine aB fun K hK=>Rg ?_;iterate 12 refine S0 ?_ (e:=fun _ h_=>by simp only[sH,↓sP,sA,tyS,simprocAttr,Int.natCast_nonneg,Int.ofNat_lt,hlt,hgd,hw1,hi1,hg1,hd43,decide_true];exact AX h_)
     refine T2 (hK _ _ _ ?_);clear hK K;refine CT rfl ?_;have F:=hw1;refine RF ?_;refine Rg ?_;have F:=aI @List.length_append.{0} @List.length_map.{0,0};iterate 5 refine SF ?_
     refine T2 (hK _ _ _ ?_);clear hK K;refine aK (by kernel_rfl) ?_;refine TQ hw2 ?_;refine⟨⟨(i+2,out++[⟨3,0⟩]),hst.step (k:=2) (by omega) (by omega) (by simp) (bC0 hi1 h42 h43)⟩,aL (by omega) ?_ ?_,?_⟩
     · simp[aY,upd_at,fin_at,HV.men]
     · simp only[aZ,List.map_append];exact⟨rfl,by omega,trivial,trivial⟩
     show p.length-(i+2)<p.length-i;omega
    have hg1:p.getD (i+1) 0=p[i+1]:=by simp[hi1]
    have hd43:((p[i+1].toNat:Int)==42)=false:=by rw[show(42:Int)=((42:UInt8).toNat:Int)from rfl,bI7];simpa using h43
    refine aB fun K hK=>Rg ?_;iterate 12 refine S0 ?_ (e:=fun _ h_=>by simp only[sH,↓sP,sA,tyS,simprocAttr,Int.natCast_nonneg,Int.ofNat_lt,hlt,hgd,hw1,hi1,hg1,hd43,decide_true];exact AX h_)
    refine T2 (hK _ _ _ ?_);clear hK K;refine CF rfl ?_;refine Rg ?_;have F:=aI @List.length_append.{0} @List.length_map.{0,0};iterate 5 refine SF ?_
    refine T2 (hK _ _ _ ?_);clear hK K;refine aK (by kernel_rfl) ?_;refine TQ hw1 ?_;refine⟨⟨(i+1,out++[⟨2,0⟩]),hst.step (k:=1) (by omega) (by omega) (by simp) (aF9 hlt h42 fun _=>h43)⟩,aL (by omega) ?_ ?_,?_⟩
    · simp[aY,upd_at,fin_at,HV.men]
    · simp only[aZ,List.map_append];exact⟨rfl,by omega,trivial,trivial⟩
    show p.length-(i+1)<p.length-i;omega
   have hdi:decide (((i+1:Nat):Int)<((p.length:Nat):Int))=false:=by simp;omega
   refine aB fun K hK=>Rg ?_;have F:=aI hw1 hdi;iterate 12 refine SF ?_
   refine T2 (hK _ _ _ ?_);clear hK K;refine CF rfl ?_;refine Rg ?_;have F:=aI @List.length_append.{0} @List.length_map.{0,0};iterate 5 refine SF ?_
   refine T2 (hK _ _ _ ?_);clear hK K;refine aK (by kernel_rfl) ?_;refine TQ hw1 ?_;refine⟨⟨(i+1,out++[⟨2,0⟩]),hst.step (k:=1) (by omega) (by omega) (by simp) (aF9 hlt h42 fun h=>absurd h hi1)⟩,aL (by omega) ?_ ?_,?_⟩
   · simp[aY,upd_at,fin_at,HV.men]
   · simp only[aZ,List.map_append];exact⟨rfl,by omega,trivial,trivial⟩
   show p.length-(i+1)<p.length-i;omega
  have h42:p[i]≠42:=bNe (d:=42) hb;clear hb;refine R0 ?_;refine aG (b:=((p[i].toNat:Int)==63)) rfl (fun hb=>?_) (fun hb=>?_)
  ·
   have h63:p[i]=63:=bEq (d:=63) hb;clear hb;refine Rg ?_;have F:=aI @List.length_append.{0} @List.length_map.{0,0};iterate 5 refine SF ?_
   refine T2 (hK _ _ _ ?_);clear hK K;refine aK (by kernel_rfl) ?_;refine TQ hw1 ?_;refine⟨⟨(i+1,out++[⟨1,0⟩]),hst.step (k:=1) (by omega) (by omega) (by simp) (bQ1 hlt h63)⟩,aL (by omega) ?_ ?_,?_⟩
   · simp[aY,upd_at,fin_at,HV.men]
   · simp only[aZ,List.map_append];exact⟨rfl,by omega,trivial,trivial⟩
   show p.length-(i+1)<p.length-i;omega
  have h63:p[i]≠63:=bNe (d:=63) hb;clear hb;refine Rg ?_;iterate 6 refine S0 ?_ (e:=fun _ h_=>by simp only[sH,↓sP,sA,tyS,simprocAttr,Int.natCast_nonneg,Int.ofNat_lt,hlt,hgd,List.length_append,List.length_map];exact AX h_)
  refine T2 (hK _ _ _ ?_);clear hK K;refine aK (by kernel_rfl) ?_;refine TQ hw1 ?_;refine⟨⟨(i+1,out++[⟨0,p[i]⟩]),hst.step (k:=1) (by omega) (by omega) (by simp) (bQ2 hlt h0 h92 h63 h42)⟩,aL (by omega) ?_ ?_,?_⟩
  · simp[aY,upd_at,fin_at,HV.men]
  · simp only[aZ,List.map_append];exact⟨rfl,by omega,trivial,trivial⟩
  show p.length-(i+1)<p.length-i;omega
 refine bI (T3 ?_);clear hK K;refine AX (hK _ _ _ ?_);clear hK K;have hei:i=p.length:=by simp at hb;omega
 have hfin:fL p=some out:=by rw[hpv];exact hst.fin hei
 refine R0 ?_;refine aE (RT Tryz.results84 ?_);refine aO [44] (.slc (out.map Pt.cv)) (.bool true) ?_ ⟨by rw[hfin];rfl,by rw[hfin];rfl⟩;simp[HV.close,fob_at,upd_at,HV.norm,HV.toC,HV.closeL,HV.toCL,CV.denil,denilL_Pt]
end Go.Proofs.YtlldglbooaefhaaGreatDoor
namespace Go.Pl
open Go Go.Hl
def rZ (c:UInt8)(l:aF):aF:=match l.findIdx? (· ==c)with|some i=>l.take i|none=>l
def xU (c:UInt8)(l:aF):aF:=match l.findIdx? (· ==c)with|some i=>l.drop (i+1)|none=>[]
def vD (c:UInt8)(l:aF):Bool:=(l.findIdx? (· ==c)).isSome
variable {l:aF}{c:UInt8}
theorem sB {i:Nat}(h:dQ l c=(i:Int)):i<l.length∧rZ c l=l.take i∧xU c l=l.drop (i+1)∧vD c l=true:=by
 unfold dQ at h;cases e:l.findIdx? (· ==c)with
 |none=>grind
 |some j=>
  grind[List.findIdx?_eq_some_iff_getElem,rZ,xU,vD]
theorem sC (h:dQ l c<0):rZ c l=l∧xU c l=[]∧vD c l=false:=by grind[dQ,rZ,xU,vD]
theorem aC3 (c:UInt8)(l:aF):aS c l=if vD c l then rZ c l::aS c (xU c l)else [rZ c l]:=by
 by_cases h:dQ l c<0;all_goals grind[sC,nQ,eG,sB]
theorem aQ8 (h:vD c l=true):(xU c l).length<l.length:=by
 by_cases h0:dQ l c<0
 · simp_all[sC]
 · obtain⟨i,hi,hil,_⟩:=eG h0;rw[(sB hi).2.2.1];grind
def PathSt (p:aF)(m:Bool)(s:aF):Prop:=s.length≤200∧(aS 47 p).all kR=if m then(aS 47 s).all kR else true
variable {p:aF}
theorem PathSt.step {s:aF}(h:PathSt p true s)(hg:kR (rZ 47 s)=true):PathSt p (vD 47 s) (xU 47 s):=by
 refine⟨?_,?_⟩
 ·
  cases hf:vD 47 s with
  |true=>have:=aQ8 hf;have:=h.1;omega
  |false=>
   by_cases h0:dQ s 47<0;all_goals grind[sC,eG,sB]
 · rw[h.2,if_pos rfl,aC3 47 s];grind
theorem PathSt.bad {s:aF}(h:PathSt p true s)(hg:kR (rZ 47 s)=false):(aS 47 p).all kR=false:=by
 rw[h.2,if_pos rfl,aC3 47 s];grind
theorem bU5 (h1:1≤p.length)(h2:p.length≤200)(h0:(0:UInt8)∉p):kS p=(aS 47 p).all kR:=by grind[kS]
theorem aC4 (h:p.length<1∨200<p.length):kS p=false:=by grind[kS,decide_eq_false]
theorem aX9 (h:(0:UInt8)∈p):kS p=false:=by
 unfold kS;grind
variable {w:aF}
theorem xV (h:w=[]∨w=[46]∨w=[46,46]):kR w=false:=by
 rcases h with h|h|h<;>subst h<;>rfl
theorem bK1 (h1:w≠[])(h2:w≠[46])(h3:w≠[46,46]):kR w=true:=by grind[kR]
end Go.Pl
namespace Go.Proofs.YtlldglbooaefhaaGreatDoor
open Go Go.Hl Go.Pl
set_option maxRecDepth 10000
set_option maxHeartbeats 16000000
theorem bU6 (l:aF)(c:UInt8)(hl:l.length<2^40):wY Tryz.prog 135 [.str l,.str [c]] (fun u v x=>u= .str (rZ c l)∧v= .str (xU c l)∧x= .bool (vD c l)):=by
 refine FW Tryz.func135 ?_;refine R0 ?_;refine aB fun K hK=>?_;refine aB fun K hK=>Rg ?_;iterate 2 refine S0 ?_
 refine HS rfl rfl fun K' hK'=>T5 ?_;refine C2 (xJ l c) ?_;rintro u rfl;refine AX (hK' _ _ ?_);clear hK' K';refine S0 ?_;refine T2 (hK _ _ _ ?_);clear hK K;refine R0 ?_;refine aG (b:=decide ((0:Int)≤dQ l c)) rfl (fun hb=>?_) (fun hb=>?_)
 ·
  have hn: ¬dQ l c<0:=by simp at hb;omega
  obtain⟨i,hi,hil,hsp⟩:=eG hn;obtain⟨_,c1,c2,c3⟩:=sB hi;have htd:List.take (l.length-(i+1)) (List.drop (i+1) l)=List.drop (i+1) l:=List.take_of_length_le (by simp);have hil1:i+1≤l.length:=hil;have hil0:i≤l.length:=by omega
  rw[hi];refine aB fun K hK=>QR ?_;have F:=aI @Int.natCast_nonneg (aI @Int.ofNat_le (aI @Int.sub_zero (aI @Nat.sub_zero (aI @List.drop_zero.{0} (aI hil0 (aI hil1 (aI htd (show IntKind.i64.wrap ((i:Int)+1)=((i+1:Nat):Int)from by rw[IntWalk.i64_in _ (by omega)];rfl))))))));iterate 12 refine SF ?_
  refine T2 (hK _ _ _ ?_);clear hK K;refine aE (RT Tryz.results135 ?_);exact dO [] (.str (l.take i)) (.str (l.drop (i+1))) (.bool true) rfl ⟨by rw[c1],by rw[c2],by rw[c3]⟩
 have hn:dQ l c<0:=by simp at hb;omega
 obtain⟨c1,c2,c3⟩:=sC hn;refine aJ ?_;refine T0 (hK _ _ _ ?_);clear hK K;refine aB fun K hK=>Rg ?_;iterate 4 refine S0 ?_
 refine T2 (hK _ _ _ ?_);clear hK K;refine aE (RT Tryz.results135 ?_);exact dO [] (.str l) (.str []) (.bool false) rfl ⟨by rw[c1],by rw[c2],by rw[c3]⟩
theorem cD8 (l:aF)(c:UInt8)(hl:l.length<2^40):wY Tryz.prog 113 [.str l,.str [c]] (fun u v x=>u= .str (rZ c l)∧v= .str (xU c l)∧x= .bool (vD c l)):=by
 refine FW Tryz.func113 ?_;refine R0 ?_;refine aB fun K hK=>Rg ?_;iterate 2 refine S0 ?_
 refine HS rfl rfl fun K' hK'=>T5 ?_;refine mJ (args:=[_,_]) (bU6 l c hl) ⟨rfl,rfl,rfl,rfl⟩ ?_;rintro u v x ⟨rfl,rfl,rfl⟩;refine AX (hK' _ _ ?_);clear hK' K';iterate 6 refine S0 ?_
 refine T2 (hK _ _ _ ?_);clear hK K;refine aE (RT Tryz.results113 ?_);exact dO [] _ _ _ rfl ⟨rfl,rfl,rfl⟩
theorem bD5 (p:aF):cG Tryz.prog 58 [.str p] (fun v=>v= .bool (fL p).isSome):=by
 refine FW Tryz.func58 ?_;refine R0 ?_;refine aB fun K hK=>Rg ?_;refine S0 ?_;refine HS rfl rfl fun K' hK'=>T5 ?_;refine D1 (aQ7 p) ?_;rintro u v ⟨rfl,rfl⟩;refine AX (hK' _ _ ?_);clear hK' K';iterate 5 refine S0 ?_
 refine T2 (hK _ _ _ ?_);clear hK K;refine R0 ?_;refine aE (RT Tryz.results58 ?_);exact aH [] _ rfl rfl
theorem aQ9 (p:aF):cG Tryz.prog 60 [.str p] (fun v=>v= .bool (fL p).isSome):=by
 refine FW Tryz.func60 ?_;refine R0 ?_;refine aB fun K hK=>Rg ?_;refine S0 ?_;refine HS rfl rfl fun K' hK'=>T5 ?_;refine D1 (cD7 p) ?_;rintro u v ⟨rfl,rfl⟩;refine AX (hK' _ _ ?_);clear hK' K';iterate 5 refine S0 ?_
 refine T2 (hK _ _ _ ?_);clear hK K;refine R0 ?_;refine aE (RT Tryz.results60 ?_);exact aH [] _ rfl rfl
theorem bD6 (p:aF):cG Tryz.prog 96 [.str p] (fun v=>v= .bool (kS p)):=by
 refine FW Tryz.func96 ?_;refine R0 ?_;refine aB fun K hK=>?_;refine aB fun K hK=>Rg ?_;iterate 4 refine S0 ?_
 refine aD 7 rfl (fun h1_7=>?_) (fun h1_7=>?_)
 ·
  have F:=h1_7;iterate 9 refine SF ?_
  refine T2 (hK _ _ _ ?_);clear hK K;refine CT rfl ?_;refine R0 ?_;refine aE (RT Tryz.results96 ?_);exact aH [] (.bool false) rfl (by rw[aC4 (by simp at h1_7;omega)])
 have F:=h1_7;iterate 5 refine SF ?_
 refine aD 11 rfl (fun h1_11=>?_) (fun h1_11=>?_)
 ·
  clear F;have F:=aI h1_7 h1_11;iterate 4 refine SF ?_
  refine T2 (hK _ _ _ ?_);clear hK K;refine CT rfl ?_;refine R0 ?_;refine aE (RT Tryz.results96 ?_);exact aH [] (.bool false) rfl (by rw[aC4 (by simp at h1_11;omega)])
 clear F;have F:=aI h1_7 h1_11;refine SF ?_;refine aP (g:=some (13,false)) rfl rfl fun K' hK'=>T6 ?_;refine C2 (rR p 0) ?_;rintro u rfl;refine AX (hK' _ _ ?_);clear hK' K';iterate 2 refine SF ?_
 refine aD 16 rfl (fun h1_16=>?_) (fun h1_16=>?_)
 · simp only[h1_16];refine T2 (hK _ _ _ ?_);clear hK K;refine CT rfl ?_;refine R0 ?_;refine aE (RT Tryz.results96 ?_);exact aH [] (.bool false) rfl (by rw[aX9 (aQ6 (by simpa using h1_16))])
 simp only[h1_16];refine T2 (hK _ _ _ ?_);clear hK K;refine CF rfl ?_;refine aJ ?_;refine T0 (hK _ _ _ ?_);clear hK K;refine aB fun K hK=>?_;have hl:p.length≤200:=by simp at h1_11;omega
 have hpv:=bU5 (p:=p) (by simp at h1_7;omega) hl (uS (by simpa using h1_16));clear h1_7 h1_11 h1_16;refine R0 ?_;refine aN ?_;refine bS (α:={y:Bool×aF//PathSt p y.1 y.2}) (fun y=>(fin [(0,.c (.str y.1.2)),(3,.c (.bool y.1.1))],fob [])) 100 (fun y=>if y.1.1 then y.1.2.length+1 else 0) ⟨(true,p),hl,by simp⟩ (fF) ?_;rintro⟨⟨m,s⟩,hst⟩;simp only at hst;have hs:=hst.1;refine aB fun K hK=>?_;refine R0 ?_;refine aG (b:=m) rfl (fun hb=>?_) (fun hb=>?_)
 ·
  subst hb;refine aJ ?_;refine T0 (hK _ _ _ ?_);clear hK K;refine aN ?_;refine R0 ?_;refine aB fun K hK=>Rg ?_;refine S0 ?_;refine HS rfl rfl fun K' hK'=>T5 ?_;refine mJ (args:=[_,_]) (cD8 s 47 (by omega)) ⟨rfl,rfl,rfl,rfl⟩ ?_;rintro u v x ⟨rfl,rfl,rfl⟩;refine AX (hK' _ _ ?_);clear hK' K';iterate 7 refine S0 ?_
  refine T2 (hK _ _ _ ?_);clear hK K;refine aB fun K hK=>Rg ?_;iterate 3 refine S0 ?_
  refine aD 26 rfl (fun h7_26=>?_) (fun h7_26=>?_)
  ·
   clear F;have F:=h7_26;iterate 7 refine SF ?_
   refine T2 (hK _ _ _ ?_);clear hK K;refine CT rfl ?_;refine R0 ?_;refine aE (RT Tryz.results96 ?_);have hg:kR (rZ 47 s)=false:=xV (.inl (eq_of_beq h7_26));exact aH [] (.bool false) rfl (by rw[hpv,hst.bad hg])
  clear F;have F:=h7_26;iterate 4 refine SF ?_
  refine aD 29 rfl (fun h7_29=>?_) (fun h7_29=>?_)
  ·
   clear F;have F:=aI h7_26 h7_29;iterate 3 refine SF ?_
   refine T2 (hK _ _ _ ?_);clear hK K;refine CT rfl ?_;refine R0 ?_;refine aE (RT Tryz.results96 ?_);have hg:kR (rZ 47 s)=false:=xV (.inr (.inl (eq_of_beq h7_29)));exact aH [] (.bool false) rfl (by rw[hpv,hst.bad hg])
  clear F;have F:=aI h7_26 h7_29;iterate 3 refine SF ?_
  refine aD 33 rfl (fun h7_33=>?_) (fun h7_33=>?_)
  · simp only[h7_33];refine T2 (hK _ _ _ ?_);clear hK K;refine CT rfl ?_;refine R0 ?_;refine aE (RT Tryz.results96 ?_);have hg:kR (rZ 47 s)=false:=xV (.inr (.inr (eq_of_beq h7_33)));exact aH [] (.bool false) rfl (by rw[hpv,hst.bad hg])
  simp only[h7_33];refine T2 (hK _ _ _ ?_);clear hK K;refine CF rfl ?_;refine aJ (T3 ?_);have hg:kR (rZ 47 s)=true:=bK1 (by simpa using h7_26) (by simpa using h7_29) (by simpa using h7_33);refine⟨⟨(vD 47 s,xU 47 s),hst.step hg⟩,fF,?_⟩;show(if vD 47 s=true then(xU 47 s).length+1 else 0)<if true=true then s.length+1 else 0
  rw[if_pos rfl];split
  · rename_i h;have:=aQ8 h;omega
  omega
 subst hb;refine bI (T3 ?_);clear hK K;refine AX (hK _ _ _ ?_);clear hK K;refine R0 ?_;refine aE (RT Tryz.results96 ?_);exact aH [] (.bool true) rfl (by rw[hpv,hst.2];rfl)
theorem cT3 :lst []=dE:=by funext j;simp[lst,dE]
theorem cD9 (x:Pt)(c:UInt8):cO2 Tryz.prog 114 140 x.cv [u8 c] (fun v=>v= .bool (c==x.c)):=by
 show HFn _ _ [.c (u8 c),.ptr 0 0] 1 _ _;refine cI (args:=[.c (u8 c),.ptr 0 0]) Tryz.func114 rfl (by kernel_rfl) (zU _ _ [u8 c]) (Nat.le_of_ble_eq_true rfl) ?_;refine R0 ?_;refine aB fun K hK=>Rg ?_;have F:=aI @Pt.get_c @bI7;iterate 5 refine SF ?_
 refine T2 (hK _ _ _ ?_);clear hK K;refine aE (RT Tryz.results114 ?_);refine aV5 [] (.bool (c==x.c)) x.cv rfl rfl (by simp[HV.close,HV.norm,HV.toC,Pt.denil]) (by simp) rfl rfl
theorem bK2 (x:Pt)(hk:x.k=0):HGe Tryz.prog 97 [.c x.cv] [] (fun r os=>r= .clo 114 [.ptr 0 0]∧os=[.box 140 (.c x.cv)]):=by
 show HFn _ _ [.c x.cv] 0 (lst []) _;rw[cT3];refine cI (args:=[.c x.cv]) Tryz.func97 rfl (by kernel_rfl) (jQ [x.cv]) (Nat.le_of_ble_eq_true rfl) ?_;have hd0:((x.k:Int)==0)=true:=by rw[hk];rfl
 have F:=aI @Pt.cells (aI @Pt.isAgg @Pt.getAll);refine RF ?_;refine aB fun K hK=>?_;have F:=@Pt.get_k;refine RF ?_;refine aN ?_;have F:=hd0;refine RF ?_;refine CT rfl ?_;refine R0 ?_;refine aE (RT Tryz.results97 ?_);refine eO [] [0] (.clo 114 [.ptr 0 0]) [.box 140 (.c x.cv)] rfl ?_ ?_ rfl (by simp) (by simp) (by simp) ⟨rfl,rfl⟩
 · simp[HV.men,HV.menL]
 refine⟨⟨by simp[HO.men,HV.men],by simp,.box 140 (.c x.cv),rfl,?_⟩,trivial⟩;simp[fI,HV.close,HV.norm,HV.toC,Pt.denil,HO.ren,HV.ren]
theorem bK3 (x:Pt)(hk:x.k=3):cG Tryz.prog 97 [x.cv] (fun v=>v= .fn 115):=by
 refine FW Tryz.func97 ?_;have hd0:((x.k:Int)==0)=false:=by rw[hk];rfl
 have hd3:((x.k:Int)==3)=true:=by rw[hk];rfl
 have F:=aI @Pt.cells (aI @Pt.isAgg @Pt.getAll);refine RF ?_;refine aB fun K hK=>?_;have F:=@Pt.get_k;refine RF ?_;refine aN ?_;have F:=hd0;refine RF ?_;refine CF rfl ?_;have F:=hd3;refine RF ?_;refine CT rfl ?_;refine R0 ?_;refine aE (RT Tryz.results97 ?_);exact aH [] (.fn 115) rfl rfl
theorem aC5 (x:Pt)(hk:x.k=1∨x.k=2):cG Tryz.prog 97 [x.cv] (fun v=>v= .fn 116):=by
 refine FW Tryz.func97 ?_;have hd0:((x.k:Int)==0)=false:=by rcases hk with h|h<;>rw[h]<;>rfl
 have hd3:((x.k:Int)==3)=false:=by rcases hk with h|h<;>rw[h]<;>rfl
 have F:=aI @Pt.cells (aI @Pt.isAgg @Pt.getAll);refine RF ?_;refine aB fun K hK=>?_;have F:=@Pt.get_k;refine RF ?_;refine aN ?_;have F:=hd0;refine RF ?_;refine CF rfl ?_;have F:=hd3;refine RF ?_;refine CF rfl ?_;refine aJ ?_;refine T0 (hK _ _ _ ?_);clear hK K;refine R0 ?_;refine aE (RT Tryz.results97 ?_);exact aH [] (.fn 116) rfl rfl
end Go.Proofs.YtlldglbooaefhaaGreatDoor
namespace Go.Pl
open Go Go.Hl
variable {ps:List Pt}{p:aF}
theorem bK4 (h:fL p=some ps):ps.length≤200∧ ∀x∈ps,x.k≤3:=by
 unfold fL at h;split at h
 · cases h
 · rename_i hl;obtain⟨h1,h2⟩:=bB9 p.length p ps (Nat.le_refl _) h;grind
variable {s:aF}
theorem aR0 (h:fL p=none):mI p s=false:=by unfold mI;rw[h]
theorem aR1 (h:kS s=false):mI p s=false:=by grind[mI]
theorem aR2 (h:fL p=some ps)(hs:kS s=true):mI p s=mD ps s ps.length s.length:=by grind[mI]
theorem bK5 (h:kS s=true):s.length≤200:=by simp_all[kS,Bool.and_eq_true,decide_eq_true_eq]
def cL (n:Nat)(f:Nat→Bool):List CV:=(tab n f).map bC1
theorem bD (n:Nat)(f:Nat→Bool):(cL n f).length=n:=by simp[cL,mP]
variable {i n:Nat}
theorem bG {f:Nat→Bool}(h:i<n):nth (cL n f) i= .bool (f i):=cC2 h
theorem bK6 (n:Nat):List.replicate n (CV.bool false)=cL n (fun _=>false):=by
 unfold cL;rw[←bI6];simp[bC1]
theorem xW (n:Nat)(f:Nat→Bool)(i:Nat)(b:Bool):(cL n f).set i (.bool b)=cL n (fun j=>if j=i then b else f j):=by
 unfold cL;rw[←cC1,List.map_set];rfl
theorem iY (n:Nat)(f:Nat→Bool):CV.denilL (cL n f)=cL n f:=cT (fun x=>by simp[bC1,CV.denil]) _
theorem bK7 {ps:List Pt}{s:aF}:(cL n (fun _=>false)).set 0 (.bool true)=cL n (fun j=>if j=0 then true else false):=xW _ _ _ _
variable {b:Bool}{k:Nat}
theorem iZ (hb:b=(mD ps s k 0&&(prt ps k).long)):(cL n (fun _=>false)).set 0 (.bool b)=cL n (nxt ps s k 0):=by
 rw[xW,hb];congr 1;grind[bR3]
theorem gL (hb:b=mD ps s (k+1) (i+1)):(cL n (nxt ps s k i)).set (i+1) (.bool b)=cL n (nxt ps s k (i+1)):=by simp_all[xW,bR4]
theorem vQ :cL (s.length+1) (nxt ps s k s.length)=cL (s.length+1) (mD ps s (k+1)):=by
 unfold cL;rw[cC3]
theorem bU7 :cL (s.length+1) (fun j=>if j=0 then true else false)=cL (s.length+1) (mD ps s 0):=by
 unfold cL;rw[bR5]
theorem cE0 (h:k<ps.length):prt ps k=ps[k]:=by simp[prt,h]
end Go.Pl
