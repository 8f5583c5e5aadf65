/- Plain Lean: the rows of Match as the walks see them. By an AI agent. -/
import Derived.Test.YtlldglbooaefhaaGreatDoorHzU1
import Derived.Test.YtlldglbooaefhaaGreatDoorPlShd
import Derived.Test.YtlldglbooaefhaaGreatDoorHlTlaw
import Derived.Test.YtlldglbooaefhaaGreatDoorPl03c
set_option linter.unusedSimpArgs false
set_option linter.unusedVariables false
set_option linter.defProp false
namespace Go.Proofs.YtlldglbooaefhaaGreatDoor
open Go Go.Hl Go.Pl
set_option maxRecDepth 10000
set_option maxHeartbeats 16000000
theorem aM4 (p:aH):lK Tryz.prog 83 [.str p] (fun u v=>u= .slc (((eB p).getD []).map Pt.cv)∧v= .bool (eB p).isSome):=by
 refine FW Tryz.func83 ?_;refine R0 ?_;refine aC fun K hK=>?_;refine aC fun K hK=>Rg ?_;iterate 4 refine S0 ?_
 refine aE 8 rfl (fun h1_8=>?_) (fun h1_8=>?_)
 ·
  have F:=h1_8;iterate 9 refine SF ?_
  refine T2 (hK _ _ _ ?_);clear hK K;refine CT rfl ?_;refine R0 ?_;refine aF (RT Tryz.results83 ?_);have hn:eB p=none:=qH (by simp at h1_8;omega);refine bD [] (.slc []) (.bool false) ?_ ⟨by rw[hn];rfl,by rw[hn];rfl⟩;simp[HV.close,HV.closeL,CV.denil,CV.denilL,HV.norm,HV.toC,HV.toCL]
 have F:=h1_8;iterate 5 refine SF ?_
 refine aE 12 rfl (fun h1_12=>?_) (fun h1_12=>?_)
 ·
  have F:=aI h1_8 h1_12;iterate 4 refine SF ?_
  refine T2 (hK _ _ _ ?_);clear hK K;refine CT rfl ?_;refine R0 ?_;refine aF (RT Tryz.results83 ?_);have hn:eB p=none:=qH (by simp at h1_12;omega);refine bD [] (.slc []) (.bool false) ?_ ⟨by rw[hn];rfl,by rw[hn];rfl⟩;simp[HV.close,HV.closeL,CV.denil,CV.denilL,HV.norm,HV.toC,HV.toCL]
 have F:=aI h1_8 h1_12;refine SF ?_;refine aV (g:=some (14,false)) rfl rfl fun K' hK'=>T6 ?_;refine C2 (qA p 0) ?_;rintro u rfl;refine AX (hK' _ _ ?_);clear hK' K';iterate 2 refine SF ?_
 refine aE 17 rfl (fun h1_17=>?_) (fun h1_17=>?_)
 ·
  simp only[h1_17];refine T2 (hK _ _ _ ?_);clear hK K;refine CT rfl ?_;refine R0 ?_;refine aF (RT Tryz.results83 ?_);have hn:eB p=none:=by
   rw[aE0 (by simp at h1_8;omega) (by simp at h1_12;omega)];exact iV p.length p (Nat.le_refl _) (aM3 (by simpa using h1_17))
  refine bD [] (.slc []) (.bool false) ?_ ⟨by rw[hn];rfl,by rw[hn];rfl⟩;simp[HV.close,HV.closeL,CV.denil,CV.denilL,HV.norm,HV.toC,HV.toCL]
 simp only[h1_17];refine T2 (hK _ _ _ ?_);clear hK K;refine CF rfl ?_;refine aK ?_;refine T0 (hK _ _ _ ?_);clear hK K;have hpv:=aE0 (p:=p) (by simp at h1_8;omega) (by simp at h1_12;omega);have hl:p.length≤200:=by simp at h1_12;omega
 have hz0:(0:UInt8)∉p:=tH (by simpa using h1_17);have hz: ∀(i:Nat) (h:i<p.length),p[i]≠0:=fun i h e=>hz0 (e▸List.getElem_mem h);clear h1_8 h1_12 h1_17;refine R0 ?_;refine aC fun K hK=>?_;refine R0 ?_;refine aL ?_;refine rE 4 0 140 2 rfl rfl rfl rfl ?_;refine bF (α:={y:Nat×List Pt//PatSt p y.1 y.2}) (fun y=>(fin [(0,.c (.str p)),(4,.own 68 y.1.2.length),(5,.c (.int .i64 y.1.1))],fob [(68,.row 140 2 (y.1.2.map Pt.cv))])) 100 (fun y=>p.length-y.1.1) ⟨(0,[]),PatSt.init p⟩ (fF) ?_;rintro⟨⟨i,out⟩,hst⟩;simp only at hst;have hi:=hst.1;have ho:=hst.2.2.1;refine aC fun K hK=>?_;refine aC fun K hK=>Rg ?_;iterate 4 refine S0 ?_
 refine T2 (hK _ _ _ ?_);clear hK K;refine aJ (b:=decide ((i:Int)<p.length)) rfl (fun hb=>?_) (fun hb=>?_)
 ·
  have hlt:i<p.length:=by simpa using hb
  clear hb;have hgd:p.getD i 0=p[i]:=by simp[hlt]
  have hw1:IntKind.i64.wrap ((i:Int)+1)=((i+1:Nat):Int):=by rw[IntWalk.i64_in _ (by omega)];rfl
  have hw2:IntKind.i64.wrap (((i+1:Nat):Int)+1)=((i+2:Nat):Int):=by rw[IntWalk.i64_in _ (by omega)];rfl
  refine aK ?_;refine T0 (hK _ _ _ ?_);clear hK K;refine aC fun K hK=>?_;refine aL ?_;refine aL ?_;refine aC fun K hK=>Rg ?_;iterate 5 refine S0 ?_ (e:=fun _ h_=>by simp only[sH,↓sP,sA,tyS,simprocAttr,Int.natCast_nonneg,Int.ofNat_lt,hlt,hgd];exact AX h_)
  refine T2 (hK _ _ _ ?_);clear hK K;refine aJ (b:=((p[i].toNat:Int)==92)) rfl (fun hb=>?_) (fun hb=>?_)
  ·
   have h92:p[i]=92:=bEq (d:=92) hb;clear hb;have F:=hw1;refine RF ?_;refine aC fun K hK=>?_;refine aC fun K hK=>Rg ?_;iterate 4 refine S0 ?_
   refine T2 (hK _ _ _ ?_);clear hK K;refine aJ (b:=(((i+1:Nat):Int)==((p.length:Nat):Int))) rfl (fun hb=>?_) (fun hb=>?_)
   ·
    have hie:i+1=p.length:=by have:=eq_of_beq hb;omega
    refine R0 ?_;refine aF (RT Tryz.results83 ?_);have hn:eB p=none:=by rw[hpv];exact hst.bad (yR hlt h92 hie)
    refine bD [] (.slc []) (.bool false) ?_ ⟨by rw[hn];rfl,by rw[hn];rfl⟩;simp[HV.close,HV.closeL,CV.denil,CV.denilL,HV.norm,HV.toC,HV.toCL]
   have hi1:i+1<p.length:=by
    have: ¬i+1=p.length:=by rintro e;rw[e]at hb;simp at hb
    omega
   clear hb;have hg1:p.getD (i+1) 0=p[i+1]:=by simp[hi1]
   refine aK ?_;refine T0 (hK _ _ _ ?_);clear hK K;refine Rg ?_;have F:=aI @Int.natCast_nonneg (aI @Int.ofNat_lt (aI hi1 (aI hg1 (aI @List.length_append.{0} @List.length_map.{0,0}))));iterate 8 refine SF ?_
   refine T2 (hK _ _ _ ?_);clear hK K;refine aM (by kernel_rfl) ?_;refine TQ hw2 ?_;refine⟨⟨(i+2,out++[⟨0,p[i+1]⟩]),hst.step (k:=2) (by omega) (by omega) (by simp) (aJ4 hi1 h92 (hz (i+1) hi1))⟩,aN (by omega) ?_ ?_,?_⟩
   · simp[aY,upd_at,fin_at,HV.men]
   · simp only[aW,List.map_append];exact⟨rfl,by omega,trivial,trivial⟩
   show p.length-(i+2)<p.length-i;omega
  have h92:p[i]≠92:=bNe (d:=92) hb;clear hb;refine aC fun K hK=>Rg ?_;iterate 5 refine S0 ?_ (e:=fun _ h_=>by simp only[sH,↓sP,sA,tyS,simprocAttr,Int.natCast_nonneg,Int.ofNat_lt,hlt,hgd];exact AX h_)
  refine T2 (hK _ _ _ ?_);clear hK K;refine aJ (b:=((p[i].toNat:Int)==63)) rfl (fun hb=>?_) (fun hb=>?_)
  ·
   have h63:p[i]=63:=bEq (d:=63) hb;clear hb;refine Rg ?_;have F:=aI @List.length_append.{0} @List.length_map.{0,0};iterate 5 refine SF ?_
   refine T2 (hK _ _ _ ?_);clear hK K;refine aM (by kernel_rfl) ?_;refine TQ hw1 ?_;refine⟨⟨(i+1,out++[⟨1,0⟩]),hst.step (k:=1) (by omega) (by omega) (by simp) (bK0 hlt h63)⟩,aN (by omega) ?_ ?_,?_⟩
   · simp[aY,upd_at,fin_at,HV.men]
   · simp only[aW,List.map_append];exact⟨rfl,by omega,trivial,trivial⟩
   show p.length-(i+1)<p.length-i;omega
  have h63:p[i]≠63:=bNe (d:=63) hb;clear hb;by_cases h42:p[i]=42
  ·
   by_cases hi1:i+1<p.length
   ·
    by_cases h43:p[i+1]=42
    ·
     have hd42:((p[i].toNat:Int)==42)=true:=by rw[h42];rfl
     have hg1:p.getD (i+1) 0=p[i+1]:=by simp[hi1]
     have hd43:((p[i+1].toNat:Int)==42)=true:=by rw[h43];rfl
     refine aC fun K hK=>Rg ?_;iterate 19 refine S0 ?_ (e:=fun _ h_=>by simp only[sH,↓sP,sA,tyS,simprocAttr,Int.natCast_nonneg,Int.ofNat_lt,hlt,hgd,hw1,hi1,hg1,hd42,hd43,decide_true];exact AX h_)
     refine T2 (hK _ _ _ ?_);clear hK K;refine CT rfl ?_;have F:=hw1;refine RF ?_;refine Rg ?_;have F:=aI @List.length_append.{0} @List.length_map.{0,0};iterate 5 refine SF ?_
     refine T2 (hK _ _ _ ?_);clear hK K;refine aM (by kernel_rfl) ?_;refine TQ hw2 ?_;refine⟨⟨(i+2,out++[⟨3,0⟩]),hst.step (k:=2) (by omega) (by omega) (by simp) (aX1 hi1 h42 h43)⟩,aN (by omega) ?_ ?_,?_⟩
     · simp[aY,upd_at,fin_at,HV.men]
     · simp only[aW,List.map_append];exact⟨rfl,by omega,trivial,trivial⟩
     show p.length-(i+2)<p.length-i;omega
    have hd42:((p[i].toNat:Int)==42)=true:=by rw[h42];rfl
    have hg1:p.getD (i+1) 0=p[i+1]:=by simp[hi1]
    have hd43:((p[i+1].toNat:Int)==42)=false:=by rw[show(42:Int)=((42:UInt8).toNat:Int)from rfl,wH];simpa using h43
    refine aC fun K hK=>Rg ?_;iterate 19 refine S0 ?_ (e:=fun _ h_=>by simp only[sH,↓sP,sA,tyS,simprocAttr,Int.natCast_nonneg,Int.ofNat_lt,hlt,hgd,hw1,hi1,hg1,hd42,hd43,decide_true];exact AX h_)
    refine T2 (hK _ _ _ ?_);clear hK K;refine CF rfl ?_;refine aC fun K hK=>Rg ?_;iterate 5 refine S0 ?_ (e:=fun _ h_=>by simp only[sH,↓sP,sA,tyS,simprocAttr,Int.natCast_nonneg,Int.ofNat_lt,hlt,hgd,hd42];exact AX h_)
    refine T2 (hK _ _ _ ?_);clear hK K;refine CT rfl ?_;refine Rg ?_;have F:=aI @List.length_append.{0} @List.length_map.{0,0};iterate 5 refine SF ?_
    refine T2 (hK _ _ _ ?_);clear hK K;refine aM (by kernel_rfl) ?_;refine TQ hw1 ?_;refine⟨⟨(i+1,out++[⟨2,0⟩]),hst.step (k:=1) (by omega) (by omega) (by simp) (aC7 hlt h42 fun _=>h43)⟩,aN (by omega) ?_ ?_,?_⟩
    · simp[aY,upd_at,fin_at,HV.men]
    · simp only[aW,List.map_append];exact⟨rfl,by omega,trivial,trivial⟩
    show p.length-(i+1)<p.length-i;omega
   have hd42:((p[i].toNat:Int)==42)=true:=by rw[h42];rfl
   have hdi:decide (((i+1:Nat):Int)<((p.length:Nat):Int))=false:=by simp;omega
   refine aC fun K hK=>Rg ?_;iterate 19 refine S0 ?_ (e:=fun _ h_=>by simp only[sH,↓sP,sA,tyS,simprocAttr,Int.natCast_nonneg,hdi,hlt,hgd,hw1,hd42];exact AX h_)
   refine T2 (hK _ _ _ ?_);clear hK K;refine CF rfl ?_;refine aC fun K hK=>Rg ?_;iterate 5 refine S0 ?_ (e:=fun _ h_=>by simp only[sH,↓sP,sA,tyS,simprocAttr,Int.natCast_nonneg,Int.ofNat_lt,hlt,hgd,hd42];exact AX h_)
   refine T2 (hK _ _ _ ?_);clear hK K;refine CT rfl ?_;refine Rg ?_;have F:=aI @List.length_append.{0} @List.length_map.{0,0};iterate 5 refine SF ?_
   refine T2 (hK _ _ _ ?_);clear hK K;refine aM (by kernel_rfl) ?_;refine TQ hw1 ?_;refine⟨⟨(i+1,out++[⟨2,0⟩]),hst.step (k:=1) (by omega) (by omega) (by simp) (aC7 hlt h42 fun h=>absurd h hi1)⟩,aN (by omega) ?_ ?_,?_⟩
   · simp[aY,upd_at,fin_at,HV.men]
   · simp only[aW,List.map_append];exact⟨rfl,by omega,trivial,trivial⟩
   show p.length-(i+1)<p.length-i;omega
  have hd42:((p[i].toNat:Int)==42)=false:=by rw[show(42:Int)=((42:UInt8).toNat:Int)from rfl,wH];simpa using h42
  refine aC fun K hK=>Rg ?_;iterate 19 refine S0 ?_ (e:=fun _ h_=>by simp only[sH,↓sP,sA,tyS,simprocAttr,Int.natCast_nonneg,Int.ofNat_lt,hlt,hgd,hw1,hd42];exact AX h_)
  refine T2 (hK _ _ _ ?_);clear hK K;refine CF rfl ?_;refine aC fun K hK=>Rg ?_;iterate 5 refine S0 ?_ (e:=fun _ h_=>by simp only[sH,↓sP,sA,tyS,simprocAttr,Int.natCast_nonneg,Int.ofNat_lt,hlt,hgd,hd42];exact AX h_)
  refine T2 (hK _ _ _ ?_);clear hK K;refine CF rfl ?_;refine Rg ?_;iterate 8 refine S0 ?_ (e:=fun _ h_=>by simp only[sH,↓sP,sA,tyS,simprocAttr,Int.natCast_nonneg,Int.ofNat_lt,hlt,hgd,List.length_append,List.length_map];exact AX h_)
  refine T2 (hK _ _ _ ?_);clear hK K;refine aM (by kernel_rfl) ?_;refine TQ hw1 ?_;refine⟨⟨(i+1,out++[⟨0,p[i]⟩]),hst.step (k:=1) (by omega) (by omega) (by simp) (bK1 hlt (hz i hlt) h92 h63 h42)⟩,aN (by omega) ?_ ?_,?_⟩
  · simp[aY,upd_at,fin_at,HV.men]
  · simp only[aW,List.map_append];exact⟨rfl,by omega,trivial,trivial⟩
  show p.length-(i+1)<p.length-i;omega
 refine bA (T3 ?_);clear hK K;refine AX (hK _ _ _ ?_);clear hK K;have hei:i=p.length:=by simp at hb;omega
 have hfin:eB p=some out:=by rw[hpv];exact hst.fin hei
 refine R0 ?_;refine aF (RT Tryz.results83 ?_);refine bD [68] (.slc (out.map Pt.cv)) (.bool true) ?_ ⟨by rw[hfin];rfl,by rw[hfin];rfl⟩;simp[HV.close,fob_at,upd_at,HV.norm,HV.toC,HV.closeL,HV.toCL,CV.denil,denilL_Pt]
theorem aY7 (p:aH):lK Tryz.prog 84 [.str p] (fun u v=>u= .slc (((eB p).getD []).map Pt.cv)∧v= .bool (eB p).isSome):=by
 refine FW Tryz.func84 ?_;refine R0 ?_;refine aC fun K hK=>?_;refine aC fun K hK=>Rg ?_;iterate 3 refine S0 ?_
 refine aE 8 rfl (fun h1_8=>?_) (fun h1_8=>?_)
 ·
  have F:=h1_8;iterate 4 refine SF ?_
  refine T2 (hK _ _ _ ?_);clear hK K;refine CT rfl ?_;refine R0 ?_;refine aF (RT Tryz.results84 ?_);have hn:eB p=none:=by
   have:p=[]:=by simpa using h1_8
   exact qH (.inl (by rw[this];simp))
  refine bD [] (.slc []) (.bool false) ?_ ⟨by rw[hn];rfl,by rw[hn];rfl⟩;simp[HV.close,HV.closeL,CV.denil,CV.denilL,HV.norm,HV.toC,HV.toCL]
 have F:=h1_8;iterate 4 refine SF ?_
 refine aE 12 rfl (fun h1_12=>?_) (fun h1_12=>?_)
 ·
  simp only[h1_12];refine T2 (hK _ _ _ ?_);clear hK K;refine CT rfl ?_;refine R0 ?_;refine aF (RT Tryz.results84 ?_);have hn:eB p=none:=by exact qH (by simp at h1_12;omega)
  refine bD [] (.slc []) (.bool false) ?_ ⟨by rw[hn];rfl,by rw[hn];rfl⟩;simp[HV.close,HV.closeL,CV.denil,CV.denilL,HV.norm,HV.toC,HV.toCL]
 simp only[h1_12];refine T2 (hK _ _ _ ?_);clear hK K;refine CF rfl ?_;refine aK ?_;refine T0 (hK _ _ _ ?_);clear hK K;have hpl:1≤p.length:=List.length_pos_iff.2 (by simpa using h1_8);have hl:p.length≤200:=by simp at h1_12;omega
 have hpv:=aE0 hpl hl;clear h1_8 h1_12;refine R0 ?_;refine aC fun K hK=>?_;refine R0 ?_;refine aL ?_;refine rE 4 0 143 2 rfl rfl rfl rfl ?_;refine bF (α:={y:Nat×List Pt//PatSt p y.1 y.2}) (fun y=>(fin [(0,.c (.str p)),(4,.own 44 y.1.2.length),(5,.c (.int .i64 y.1.1))],fob [(44,.row 143 2 (y.1.2.map Pt.cv))])) 100 (fun y=>p.length-y.1.1) ⟨(0,[]),PatSt.init p⟩ (fF) ?_;rintro⟨⟨i,out⟩,hst⟩;simp only at hst;have hi:=hst.1;have ho:=hst.2.2.1;refine aC fun K hK=>?_;refine aC fun K hK=>Rg ?_;iterate 4 refine S0 ?_
 refine T2 (hK _ _ _ ?_);clear hK K;refine aJ (b:=decide ((i:Int)<p.length)) rfl (fun hb=>?_) (fun hb=>?_)
 ·
  have hlt:i<p.length:=by simpa using hb
  clear hb;have hgd:p.getD i 0=p[i]:=by simp[hlt]
  have hw1:IntKind.i64.wrap ((i:Int)+1)=((i+1:Nat):Int):=by rw[IntWalk.i64_in _ (by omega)];rfl
  have hw2:IntKind.i64.wrap (((i+1:Nat):Int)+1)=((i+2:Nat):Int):=by rw[IntWalk.i64_in _ (by omega)];rfl
  refine aK ?_;refine T0 (hK _ _ _ ?_);clear hK K;refine aC fun K hK=>?_;refine aL ?_;refine aC fun K hK=>Rg ?_;iterate 4 refine S0 ?_ (e:=fun _ h_=>by simp only[sH,↓sP,sA,tyS,simprocAttr,Int.natCast_nonneg,Int.ofNat_lt,hlt,hgd];exact AX h_)
  refine T2 (hK _ _ _ ?_);clear hK K;refine aC fun K hK=>?_;refine R0 ?_;refine aJ (b:=((p[i].toNat:Int)==0)) rfl (fun hb=>?_) (fun hb=>?_)
  ·
   have h0:p[i]=0:=bEq (d:=0) hb;refine R0 ?_;refine aF (RT Tryz.results84 ?_);have hn:eB p=none:=by rw[hpv];exact hst.bad (aJ5 hlt h0)
   refine bD [] (.slc []) (.bool false) ?_ ⟨by rw[hn];rfl,by rw[hn];rfl⟩;simp[HV.close,HV.closeL,CV.denil,CV.denilL,HV.norm,HV.toC,HV.toCL]
  have h0:p[i]≠0:=bNe (d:=0) hb;clear hb;refine aK ?_;refine T0 (hK _ _ _ ?_);clear hK K;refine R0 ?_;refine aL ?_;refine R0 ?_;refine aJ (b:=((p[i].toNat:Int)==92)) rfl (fun hb=>?_) (fun hb=>?_)
  ·
   have h92:p[i]=92:=bEq (d:=92) hb;clear hb;refine aC fun K hK=>?_;by_cases hi1:i+1<p.length
   ·
    by_cases h10:p[i+1]=0
    ·
     have hne:((((i+1:Nat):Int))==((p.length:Nat):Int))=false:=by rw[beq_eq_false_iff_ne];omega
     have hg1:p.getD (i+1) 0=p[i+1]:=by simp[hi1]
     have hd0:((p[i+1].toNat:Int)==0)=true:=by rw[h10];rfl
     refine aC fun K hK=>Rg ?_;iterate 12 refine S0 ?_ (e:=fun _ h_=>by simp only[sH,↓sP,sA,tyS,simprocAttr,Int.natCast_nonneg,Int.ofNat_lt,hlt,hgd,hw1,hne,hi1,hg1,hd0];exact AX h_)
     refine T2 (hK _ _ _ ?_);clear hK K;refine CT rfl ?_;refine R0 ?_;refine aF (RT Tryz.results84 ?_);have hn:eB p=none:=by rw[hpv];exact hst.bad (bC9 hi1 h92 h10)
     refine bD [] (.slc []) (.bool false) ?_ ⟨by rw[hn];rfl,by rw[hn];rfl⟩;simp[HV.close,HV.closeL,CV.denil,CV.denilL,HV.norm,HV.toC,HV.toCL]
    have hne:((((i+1:Nat):Int))==((p.length:Nat):Int))=false:=by rw[beq_eq_false_iff_ne];omega
    have hg1:p.getD (i+1) 0=p[i+1]:=by simp[hi1]
    have hd0:((p[i+1].toNat:Int)==0)=false:=by rw[show(0:Int)=((0:UInt8).toNat:Int)from rfl,wH];simpa using h10
    refine aC fun K hK=>Rg ?_;iterate 12 refine S0 ?_ (e:=fun _ h_=>by simp only[sH,↓sP,sA,tyS,simprocAttr,Int.natCast_nonneg,Int.ofNat_lt,hlt,hgd,hw1,hne,hi1,hg1,hd0];exact AX h_)
    refine T2 (hK _ _ _ ?_);clear hK K;refine CF rfl ?_;refine aK ?_;refine T0 (hK _ _ _ ?_);clear hK K;have F:=hw1;refine RF ?_;refine Rg ?_;iterate 8 refine S0 ?_ (e:=fun _ h_=>by simp only[sH,↓sP,sA,tyS,simprocAttr,Int.natCast_nonneg,Int.ofNat_lt,hlt,hgd,hi1,hg1,List.length_append,List.length_map];exact AX h_)
    refine T2 (hK _ _ _ ?_);clear hK K;refine aM (by kernel_rfl) ?_;refine TQ hw2 ?_;refine⟨⟨(i+2,out++[⟨0,p[i+1]⟩]),hst.step (k:=2) (by omega) (by omega) (by simp) (aJ4 hi1 h92 h10)⟩,aN (by omega) ?_ ?_,?_⟩
    · simp[aY,upd_at,fin_at,HV.men]
    · simp only[aW,List.map_append];exact⟨rfl,by omega,trivial,trivial⟩
    show p.length-(i+2)<p.length-i;omega
   have hie:i+1=p.length:=by omega
   have hne:((((i+1:Nat):Int))==((p.length:Nat):Int))=true:=by rw[hie];simp
   refine aC fun K hK=>Rg ?_;iterate 12 refine S0 ?_ (e:=fun _ h_=>by simp only[sH,↓sP,sA,tyS,simprocAttr,Int.natCast_nonneg,Int.ofNat_lt,hlt,hgd,hw1,hne];exact AX h_)
   refine T2 (hK _ _ _ ?_);clear hK K;refine CT rfl ?_;refine R0 ?_;refine aF (RT Tryz.results84 ?_);have hn:eB p=none:=by rw[hpv];exact hst.bad (yR hlt h92 hie)
   refine bD [] (.slc []) (.bool false) ?_ ⟨by rw[hn];rfl,by rw[hn];rfl⟩;simp[HV.close,HV.closeL,CV.denil,CV.denilL,HV.norm,HV.toC,HV.toCL]
  have h92:p[i]≠92:=bNe (d:=92) hb;clear hb;refine R0 ?_;refine aJ (b:=((p[i].toNat:Int)==42)) rfl (fun hb=>?_) (fun hb=>?_)
  ·
   have h42:p[i]=42:=bEq (d:=42) hb;clear hb;by_cases hi1:i+1<p.length
   ·
    by_cases h43:p[i+1]=42
    ·
     have hg1:p.getD (i+1) 0=p[i+1]:=by simp[hi1]
     have hd43:((p[i+1].toNat:Int)==42)=true:=by rw[h43];rfl
     refine aC fun K hK=>Rg ?_;iterate 12 refine S0 ?_ (e:=fun _ h_=>by simp only[sH,↓sP,sA,tyS,simprocAttr,Int.natCast_nonneg,Int.ofNat_lt,hlt,hgd,hw1,hi1,hg1,hd43,decide_true];exact AX h_)
     refine T2 (hK _ _ _ ?_);clear hK K;refine CT rfl ?_;have F:=hw1;refine RF ?_;refine Rg ?_;have F:=aI @List.length_append.{0} @List.length_map.{0,0};iterate 5 refine SF ?_
     refine T2 (hK _ _ _ ?_);clear hK K;refine aM (by kernel_rfl) ?_;refine TQ hw2 ?_;refine⟨⟨(i+2,out++[⟨3,0⟩]),hst.step (k:=2) (by omega) (by omega) (by simp) (aX1 hi1 h42 h43)⟩,aN (by omega) ?_ ?_,?_⟩
     · simp[aY,upd_at,fin_at,HV.men]
     · simp only[aW,List.map_append];exact⟨rfl,by omega,trivial,trivial⟩
     show p.length-(i+2)<p.length-i;omega
    have hg1:p.getD (i+1) 0=p[i+1]:=by simp[hi1]
    have hd43:((p[i+1].toNat:Int)==42)=false:=by rw[show(42:Int)=((42:UInt8).toNat:Int)from rfl,wH];simpa using h43
    refine aC fun K hK=>Rg ?_;iterate 12 refine S0 ?_ (e:=fun _ h_=>by simp only[sH,↓sP,sA,tyS,simprocAttr,Int.natCast_nonneg,Int.ofNat_lt,hlt,hgd,hw1,hi1,hg1,hd43,decide_true];exact AX h_)
    refine T2 (hK _ _ _ ?_);clear hK K;refine CF rfl ?_;refine Rg ?_;have F:=aI @List.length_append.{0} @List.length_map.{0,0};iterate 5 refine SF ?_
    refine T2 (hK _ _ _ ?_);clear hK K;refine aM (by kernel_rfl) ?_;refine TQ hw1 ?_;refine⟨⟨(i+1,out++[⟨2,0⟩]),hst.step (k:=1) (by omega) (by omega) (by simp) (aC7 hlt h42 fun _=>h43)⟩,aN (by omega) ?_ ?_,?_⟩
    · simp[aY,upd_at,fin_at,HV.men]
    · simp only[aW,List.map_append];exact⟨rfl,by omega,trivial,trivial⟩
    show p.length-(i+1)<p.length-i;omega
   have hdi:decide (((i+1:Nat):Int)<((p.length:Nat):Int))=false:=by simp;omega
   refine aC fun K hK=>Rg ?_;have F:=aI hw1 hdi;iterate 12 refine SF ?_
   refine T2 (hK _ _ _ ?_);clear hK K;refine CF rfl ?_;refine Rg ?_;have F:=aI @List.length_append.{0} @List.length_map.{0,0};iterate 5 refine SF ?_
   refine T2 (hK _ _ _ ?_);clear hK K;refine aM (by kernel_rfl) ?_;refine TQ hw1 ?_;refine⟨⟨(i+1,out++[⟨2,0⟩]),hst.step (k:=1) (by omega) (by omega) (by simp) (aC7 hlt h42 fun h=>absurd h hi1)⟩,aN (by omega) ?_ ?_,?_⟩
   · simp[aY,upd_at,fin_at,HV.men]
   · simp only[aW,List.map_append];exact⟨rfl,by omega,trivial,trivial⟩
   show p.length-(i+1)<p.length-i;omega
  have h42:p[i]≠42:=bNe (d:=42) hb;clear hb;refine R0 ?_;refine aJ (b:=((p[i].toNat:Int)==63)) rfl (fun hb=>?_) (fun hb=>?_)
  ·
   have h63:p[i]=63:=bEq (d:=63) hb;clear hb;refine Rg ?_;have F:=aI @List.length_append.{0} @List.length_map.{0,0};iterate 5 refine SF ?_
   refine T2 (hK _ _ _ ?_);clear hK K;refine aM (by kernel_rfl) ?_;refine TQ hw1 ?_;refine⟨⟨(i+1,out++[⟨1,0⟩]),hst.step (k:=1) (by omega) (by omega) (by simp) (bK0 hlt h63)⟩,aN (by omega) ?_ ?_,?_⟩
   · simp[aY,upd_at,fin_at,HV.men]
   · simp only[aW,List.map_append];exact⟨rfl,by omega,trivial,trivial⟩
   show p.length-(i+1)<p.length-i;omega
  have h63:p[i]≠63:=bNe (d:=63) hb;clear hb;refine Rg ?_;iterate 6 refine S0 ?_ (e:=fun _ h_=>by simp only[sH,↓sP,sA,tyS,simprocAttr,Int.natCast_nonneg,Int.ofNat_lt,hlt,hgd,List.length_append,List.length_map];exact AX h_)
  refine T2 (hK _ _ _ ?_);clear hK K;refine aM (by kernel_rfl) ?_;refine TQ hw1 ?_;refine⟨⟨(i+1,out++[⟨0,p[i]⟩]),hst.step (k:=1) (by omega) (by omega) (by simp) (bK1 hlt h0 h92 h63 h42)⟩,aN (by omega) ?_ ?_,?_⟩
  · simp[aY,upd_at,fin_at,HV.men]
  · simp only[aW,List.map_append];exact⟨rfl,by omega,trivial,trivial⟩
  show p.length-(i+1)<p.length-i;omega
 refine bA (T3 ?_);clear hK K;refine AX (hK _ _ _ ?_);clear hK K;have hei:i=p.length:=by simp at hb;omega
 have hfin:eB p=some out:=by rw[hpv];exact hst.fin hei
 refine R0 ?_;refine aF (RT Tryz.results84 ?_);refine bD [44] (.slc (out.map Pt.cv)) (.bool true) ?_ ⟨by rw[hfin];rfl,by rw[hfin];rfl⟩;simp[HV.close,fob_at,upd_at,HV.norm,HV.toC,HV.closeL,HV.toCL,CV.denil,denilL_Pt]
end Go.Proofs.YtlldglbooaefhaaGreatDoor
namespace Go.Pl
open Go Go.Hl
def qI (c:UInt8)(l:aH):aH:=match l.findIdx? (· ==c)with|some i=>l.take i|none=>l
def wS (c:UInt8)(l:aH):aH:=match l.findIdx? (· ==c)with|some i=>l.drop (i+1)|none=>[]
def tU (c:UInt8)(l:aH):Bool:=(l.findIdx? (· ==c)).isSome
variable {l:aH}{c:UInt8}
theorem qJ {i:Nat}(h:cX l c=(i:Int)):i<l.length∧qI c l=l.take i∧wS c l=l.drop (i+1)∧tU c l=true:=by
 unfold cX at h;cases e:l.findIdx? (· ==c)with
 |none=>grind
 |some j=>
  grind[List.findIdx?_eq_some_iff_getElem,qI,wS,tU]
theorem qK (h:cX l c<0):qI c l=l∧wS c l=[]∧tU c l=false:=by grind[cX,qI,wS,tU]
theorem zN (c:UInt8)(l:aH):aR c l=if tU c l then qI c l::aR c (wS c l)else [qI c l]:=by
 by_cases h:cX l c<0;all_goals grind[qK,mV,dJ,qJ]
theorem aM5 (h:tU c l=true):(wS c l).length<l.length:=by
 by_cases h0:cX l c<0
 · simp_all[qK]
 · obtain⟨i,hi,hil,_⟩:=dJ h0;rw[(qJ hi).2.2.1];grind
def PathSt (p:aH)(m:Bool)(s:aH):Prop:=s.length≤200∧(aR 47 p).all gE=if m then(aR 47 s).all gE else true
variable {p:aH}
theorem PathSt.step {s:aH}(h:PathSt p true s)(hg:gE (qI 47 s)=true):PathSt p (tU 47 s) (wS 47 s):=by
 refine⟨?_,?_⟩
 ·
  cases hf:tU 47 s with
  |true=>have:=aM5 hf;have:=h.1;omega
  |false=>
   by_cases h0:cX s 47<0;all_goals grind[qK,dJ,qJ]
 · rw[h.2,if_pos rfl,zN 47 s];grind
theorem PathSt.bad {s:aH}(h:PathSt p true s)(hg:gE (qI 47 s)=false):(aR 47 p).all gE=false:=by
 rw[h.2,if_pos rfl,zN 47 s];grind
theorem aM6 (h1:1≤p.length)(h2:p.length≤200)(h0:(0:UInt8)∉p):iD p=(aR 47 p).all gE:=by grind[iD]
theorem oD (h:p.length<1∨200<p.length):iD p=false:=by grind[iD,decide_eq_false]
theorem wT (h:(0:UInt8)∈p):iD p=false:=by
 unfold iD;grind
variable {w:aH}
theorem kY (h:w=[]∨w=[46]∨w=[46,46]):gE w=false:=by
 rcases h with h|h|h<;>subst h<;>rfl
theorem zO (h1:w≠[])(h2:w≠[46])(h3:w≠[46,46]):gE w=true:=by grind[gE]
end Go.Pl
namespace Go.Proofs.YtlldglbooaefhaaGreatDoor
open Go Go.Hl Go.Pl
set_option maxRecDepth 10000
set_option maxHeartbeats 16000000
theorem bO2 (l:aH)(c:UInt8)(hl:l.length<2^40):aC8 Tryz.prog 135 [.str l,.str [c]] (fun u v x=>u= .str (qI c l)∧v= .str (wS c l)∧x= .bool (tU c l)):=by
 refine FW Tryz.func135 ?_;refine R0 ?_;refine aC fun K hK=>?_;refine aC fun K hK=>Rg ?_;iterate 2 refine S0 ?_
 refine HS rfl rfl fun K' hK'=>T5 ?_;refine C2 (wG l c) ?_;rintro u rfl;refine AX (hK' _ _ ?_);clear hK' K';refine S0 ?_;refine T2 (hK _ _ _ ?_);clear hK K;refine R0 ?_;refine aJ (b:=decide ((0:Int)≤cX l c)) rfl (fun hb=>?_) (fun hb=>?_)
 ·
  have hn: ¬cX l c<0:=by simp at hb;omega
  obtain⟨i,hi,hil,hsp⟩:=dJ hn;obtain⟨_,c1,c2,c3⟩:=qJ hi;have htd:List.take (l.length-(i+1)) (List.drop (i+1) l)=List.drop (i+1) l:=List.take_of_length_le (by simp);have hil1:i+1≤l.length:=hil;have hil0:i≤l.length:=by omega
  rw[hi];refine aC fun K hK=>QR ?_;have F:=aI @Int.natCast_nonneg (aI @Int.ofNat_le (aI @Int.sub_zero (aI @Nat.sub_zero (aI @List.drop_zero.{0} (aI hil0 (aI hil1 (aI htd (show IntKind.i64.wrap ((i:Int)+1)=((i+1:Nat):Int)from by rw[IntWalk.i64_in _ (by omega)];rfl))))))));iterate 12 refine SF ?_
  refine T2 (hK _ _ _ ?_);clear hK K;refine aF (RT Tryz.results135 ?_);exact jC [] (.str (l.take i)) (.str (l.drop (i+1))) (.bool true) rfl ⟨by rw[c1],by rw[c2],by rw[c3]⟩
 have hn:cX l c<0:=by simp at hb;omega
 obtain⟨c1,c2,c3⟩:=qK hn;refine aK ?_;refine T0 (hK _ _ _ ?_);clear hK K;refine aC fun K hK=>Rg ?_;iterate 4 refine S0 ?_
 refine T2 (hK _ _ _ ?_);clear hK K;refine aF (RT Tryz.results135 ?_);exact jC [] (.str l) (.str []) (.bool false) rfl ⟨by rw[c1],by rw[c2],by rw[c3]⟩
theorem bX5 (l:aH)(c:UInt8)(hl:l.length<2^40):aC8 Tryz.prog 113 [.str l,.str [c]] (fun u v x=>u= .str (qI c l)∧v= .str (wS c l)∧x= .bool (tU c l)):=by
 refine FW Tryz.func113 ?_;refine R0 ?_;refine aC fun K hK=>Rg ?_;iterate 2 refine S0 ?_
 refine HS rfl rfl fun K' hK'=>T5 ?_;refine oV (args:=[_,_]) (bO2 l c hl) ⟨rfl,rfl,rfl,rfl⟩ ?_;rintro u v x ⟨rfl,rfl,rfl⟩;refine AX (hK' _ _ ?_);clear hK' K';iterate 6 refine S0 ?_
 refine T2 (hK _ _ _ ?_);clear hK K;refine aF (RT Tryz.results113 ?_);exact jC [] _ _ _ rfl ⟨rfl,rfl,rfl⟩
theorem aY8 (p:aH):bV Tryz.prog 58 [.str p] (fun v=>v= .bool (eB p).isSome):=by
 refine FW Tryz.func58 ?_;refine R0 ?_;refine aC fun K hK=>Rg ?_;refine S0 ?_;refine HS rfl rfl fun K' hK'=>T5 ?_;refine D1 (aM4 p) ?_;rintro u v ⟨rfl,rfl⟩;refine AX (hK' _ _ ?_);clear hK' K';iterate 5 refine S0 ?_
 refine T2 (hK _ _ _ ?_);clear hK K;refine R0 ?_;refine aF (RT Tryz.results58 ?_);exact aG [] _ rfl rfl
theorem aM7 (p:aH):bV Tryz.prog 60 [.str p] (fun v=>v= .bool (eB p).isSome):=by
 refine FW Tryz.func60 ?_;refine R0 ?_;refine aC fun K hK=>Rg ?_;refine S0 ?_;refine HS rfl rfl fun K' hK'=>T5 ?_;refine D1 (aY7 p) ?_;rintro u v ⟨rfl,rfl⟩;refine AX (hK' _ _ ?_);clear hK' K';iterate 5 refine S0 ?_
 refine T2 (hK _ _ _ ?_);clear hK K;refine R0 ?_;refine aF (RT Tryz.results60 ?_);exact aG [] _ rfl rfl
theorem aY9 (p:aH):bV Tryz.prog 96 [.str p] (fun v=>v= .bool (iD p)):=by
 refine FW Tryz.func96 ?_;refine R0 ?_;refine aC fun K hK=>?_;refine aC fun K hK=>Rg ?_;iterate 4 refine S0 ?_
 refine aE 7 rfl (fun h1_7=>?_) (fun h1_7=>?_)
 ·
  have F:=h1_7;iterate 9 refine SF ?_
  refine T2 (hK _ _ _ ?_);clear hK K;refine CT rfl ?_;refine R0 ?_;refine aF (RT Tryz.results96 ?_);exact aG [] (.bool false) rfl (by rw[oD (by simp at h1_7;omega)])
 have F:=h1_7;iterate 5 refine SF ?_
 refine aE 11 rfl (fun h1_11=>?_) (fun h1_11=>?_)
 ·
  clear F;have F:=aI h1_7 h1_11;iterate 4 refine SF ?_
  refine T2 (hK _ _ _ ?_);clear hK K;refine CT rfl ?_;refine R0 ?_;refine aF (RT Tryz.results96 ?_);exact aG [] (.bool false) rfl (by rw[oD (by simp at h1_11;omega)])
 clear F;have F:=aI h1_7 h1_11;refine SF ?_;refine aV (g:=some (13,false)) rfl rfl fun K' hK'=>T6 ?_;refine C2 (qA p 0) ?_;rintro u rfl;refine AX (hK' _ _ ?_);clear hK' K';iterate 2 refine SF ?_
 refine aE 16 rfl (fun h1_16=>?_) (fun h1_16=>?_)
 · simp only[h1_16];refine T2 (hK _ _ _ ?_);clear hK K;refine CT rfl ?_;refine R0 ?_;refine aF (RT Tryz.results96 ?_);exact aG [] (.bool false) rfl (by rw[wT (aM3 (by simpa using h1_16))])
 simp only[h1_16];refine T2 (hK _ _ _ ?_);clear hK K;refine CF rfl ?_;refine aK ?_;refine T0 (hK _ _ _ ?_);clear hK K;refine aC fun K hK=>?_;have hl:p.length≤200:=by simp at h1_11;omega
 have hpv:=aM6 (p:=p) (by simp at h1_7;omega) hl (tH (by simpa using h1_16));clear h1_7 h1_11 h1_16;refine R0 ?_;refine aL ?_;refine bF (α:={y:Bool×aH//PathSt p y.1 y.2}) (fun y=>(fin [(0,.c (.str y.1.2)),(3,.c (.bool y.1.1))],fob [])) 100 (fun y=>if y.1.1 then y.1.2.length+1 else 0) ⟨(true,p),hl,by simp⟩ (fF) ?_;rintro⟨⟨m,s⟩,hst⟩;simp only at hst;have hs:=hst.1;refine aC fun K hK=>?_;refine R0 ?_;refine aJ (b:=m) rfl (fun hb=>?_) (fun hb=>?_)
 ·
  subst hb;refine aK ?_;refine T0 (hK _ _ _ ?_);clear hK K;refine aL ?_;refine R0 ?_;refine aC fun K hK=>Rg ?_;refine S0 ?_;refine HS rfl rfl fun K' hK'=>T5 ?_;refine oV (args:=[_,_]) (bX5 s 47 (by omega)) ⟨rfl,rfl,rfl,rfl⟩ ?_;rintro u v x ⟨rfl,rfl,rfl⟩;refine AX (hK' _ _ ?_);clear hK' K';iterate 7 refine S0 ?_
  refine T2 (hK _ _ _ ?_);clear hK K;refine aC fun K hK=>Rg ?_;iterate 3 refine S0 ?_
  refine aE 26 rfl (fun h7_26=>?_) (fun h7_26=>?_)
  ·
   clear F;have F:=h7_26;iterate 7 refine SF ?_
   refine T2 (hK _ _ _ ?_);clear hK K;refine CT rfl ?_;refine R0 ?_;refine aF (RT Tryz.results96 ?_);have hg:gE (qI 47 s)=false:=kY (.inl (eq_of_beq h7_26));exact aG [] (.bool false) rfl (by rw[hpv,hst.bad hg])
  clear F;have F:=h7_26;iterate 4 refine SF ?_
  refine aE 29 rfl (fun h7_29=>?_) (fun h7_29=>?_)
  ·
   clear F;have F:=aI h7_26 h7_29;iterate 3 refine SF ?_
   refine T2 (hK _ _ _ ?_);clear hK K;refine CT rfl ?_;refine R0 ?_;refine aF (RT Tryz.results96 ?_);have hg:gE (qI 47 s)=false:=kY (.inr (.inl (eq_of_beq h7_29)));exact aG [] (.bool false) rfl (by rw[hpv,hst.bad hg])
  clear F;have F:=aI h7_26 h7_29;iterate 3 refine SF ?_
  refine aE 33 rfl (fun h7_33=>?_) (fun h7_33=>?_)
  · simp only[h7_33];refine T2 (hK _ _ _ ?_);clear hK K;refine CT rfl ?_;refine R0 ?_;refine aF (RT Tryz.results96 ?_);have hg:gE (qI 47 s)=false:=kY (.inr (.inr (eq_of_beq h7_33)));exact aG [] (.bool false) rfl (by rw[hpv,hst.bad hg])
  simp only[h7_33];refine T2 (hK _ _ _ ?_);clear hK K;refine CF rfl ?_;refine aK (T3 ?_);have hg:gE (qI 47 s)=true:=zO (by simpa using h7_26) (by simpa using h7_29) (by simpa using h7_33);refine⟨⟨(tU 47 s,wS 47 s),hst.step hg⟩,fF,?_⟩;show(if tU 47 s=true then(wS 47 s).length+1 else 0)<if true=true then s.length+1 else 0
  rw[if_pos rfl];split
  · rename_i h;have:=aM5 h;omega
  omega
 subst hb;refine bA (T3 ?_);clear hK K;refine AX (hK _ _ _ ?_);clear hK K;refine R0 ?_;refine aF (RT Tryz.results96 ?_);exact aG [] (.bool true) rfl (by rw[hpv,hst.2];rfl)
theorem aM8 (p:aH):bV Tryz.prog 99 [.str p] (fun v=>v= .bool (iD p)):=by
 refine FW Tryz.func99 ?_;refine R0 ?_;refine aC fun K hK=>?_;refine aC fun K hK=>Rg ?_;iterate 3 refine S0 ?_
 refine aE 7 rfl (fun h1_7=>?_) (fun h1_7=>?_)
 ·
  have F:=h1_7;iterate 4 refine SF ?_
  refine T2 (hK _ _ _ ?_);clear hK K;refine CT rfl ?_;refine R0 ?_;refine aF (RT Tryz.results99 ?_);have h0:p=[]:=eq_of_beq h1_7;exact aG [] (.bool false) rfl (by rw[oD (.inl (by rw[h0];simp))])
 have F:=h1_7;iterate 4 refine SF ?_
 refine aE 11 rfl (fun h1_11=>?_) (fun h1_11=>?_)
 · simp only[h1_11];refine T2 (hK _ _ _ ?_);clear hK K;refine CT rfl ?_;refine R0 ?_;refine aF (RT Tryz.results99 ?_);exact aG [] (.bool false) rfl (by rw[oD (by simp at h1_11;omega)])
 simp only[h1_11];refine T2 (hK _ _ _ ?_);clear hK K;refine CF rfl ?_;refine aK ?_;refine T0 (hK _ _ _ ?_);clear hK K;refine aC fun K hK=>?_;have hpl:1≤p.length:=List.length_pos_iff.2 (by simpa using h1_7);have hl:p.length≤200:=by simp at h1_11;omega
 clear h1_7 h1_11;refine R0 ?_;refine aL ?_;refine bF (α:={i:Nat//i≤p.length∧ ∀x∈p.take i,(x==0)=false}) (fun i=>(fin [(0,.c (.str p)),(3,.c (.int .i64 i.1))],fob [])) 100 (fun i=>p.length-i.1) ⟨0,by omega,by simp⟩ (fF) ?_;rintro⟨i,hi,h0⟩;refine aC fun K hK=>?_;refine aC fun K hK=>Rg ?_;iterate 4 refine S0 ?_
 refine T2 (hK _ _ _ ?_);clear hK K;refine aJ (b:=decide ((i:Int)<p.length)) rfl (fun hb=>?_) (fun hb=>?_)
 ·
  have hlt:i<p.length:=by simpa using hb
  clear hb;have hgd:p.getD i 0=p[i]:=by simp[hlt]
  refine aK ?_;refine T0 (hK _ _ _ ?_);clear hK K;refine aC fun K hK=>?_;refine aL ?_;refine aC fun K hK=>Rg ?_;iterate 4 refine S0 ?_ (e:=fun _ h_=>by simp only[sH,↓sP,sA,tyS,simprocAttr,Int.natCast_nonneg,Int.ofNat_lt,hlt,hgd];exact AX h_)
  refine T2 (hK _ _ _ ?_);clear hK K;refine aJ (b:=((p[i].toNat:Int)==0)) rfl (fun hb=>?_) (fun hb=>?_)
  · have h00:p[i]=0:=bEq (d:=0) hb;refine R0 ?_;refine aF (RT Tryz.results99 ?_);exact aG [] (.bool false) rfl (by rw[wT (h00▸List.getElem_mem hlt)])
  have h00:(p[i]==0)=false:=by have:=bNe (d:=0) hb;simpa using this
  refine aK ?_;refine T0 (hK _ _ _ ?_);clear hK K;refine aM (by kernel_rfl) ?_;refine TQ (jP i) ?_;refine⟨⟨i+1,hlt,rR (p:=fun x=>x==0) hlt h00 h0⟩,fF,?_⟩;show p.length-(i+1)<p.length-i;omega
 refine bA (T3 ?_);clear hK K;refine AX (hK _ _ _ ?_);clear hK K;have hei:i=p.length:=by simp at hb;omega
 rw[hei,List.take_length]at h0;clear hb;have hz:(0:UInt8)∉p:=fun h=>by simpa using h0 0 h
 have hpv:=aM6 hpl hl hz;obtain⟨cs,hcs⟩: ∃cs,cs=aR 47 p:=⟨_,rfl⟩;have hcl:cs.length≤201:=by rw[hcs];have:=fM 47 p;omega
 rw[←hcs]at hpv;refine aC fun K hK=>Rg ?_;refine S0 ?_;refine HS rfl rfl fun K' hK'=>T5 ?_;refine C2 (bL4 p 47 (by omega)) ?_;rintro u rfl;rw[←hcs];refine AX (hK' _ _ ?_);clear hK' K';refine S0 ?_;refine T2 (hK _ _ _ ?_);clear hK K;refine aC fun K hK=>?_;refine R0 ?_;refine aL ?_;refine bF (α:={j:Nat//j≤cs.length∧ ∀x∈cs.take j,(!gE x)=false}) (fun j=>(fin [(4,.c (.slc (cs.map .str))),(5,.c (.int .i64 j.1))],fob [])) 200 (fun j=>cs.length-j.1) ⟨0,by omega,by simp⟩ (fF) ?_;rintro⟨j,hj,hg0⟩;refine aC fun K hK=>?_;refine aC fun K hK=>Rg ?_;iterate 4 refine S0 ?_
 refine T2 (hK _ _ _ ?_);clear hK K;refine aJ (b:=decide ((j:Int)<cs.length)) rfl (fun hb=>?_) (fun hb=>?_)
 ·
  have hjl:j<cs.length:=by simpa using hb
  clear hb;refine aK ?_;refine T0 (hK _ _ _ ?_);clear hK K;refine aC fun K hK=>?_;refine aL ?_;refine aC fun K hK=>Rg ?_;have F:=aI @Int.natCast_nonneg (aI @Int.ofNat_lt (aI hjl (nM hjl)));iterate 6 refine SF ?_
  refine aE 35 rfl (fun h12_35=>?_) (fun h12_35=>?_)
  ·
   have F:=aI @Int.natCast_nonneg (aI @Int.ofNat_lt (aI hjl (aI (nM hjl) h12_35)));iterate 13 refine SF ?_
   refine T2 (hK _ _ _ ?_);clear hK K;refine CT rfl ?_;refine R0 ?_;refine aF (RT Tryz.results99 ?_);have hg:gE cs[j]=false:=kY (.inl (eq_of_beq h12_35));exact aG [] (.bool false) rfl (by rw[hpv];congr 1;exact(List.all_eq_false.2 ⟨_,List.getElem_mem hjl,by rw[hg];simp⟩).symm)
  have F:=aI @Int.natCast_nonneg (aI @Int.ofNat_lt (aI hjl (aI (nM hjl) h12_35)));iterate 7 refine SF ?_
  refine aE 41 rfl (fun h12_41=>?_) (fun h12_41=>?_)
  ·
   have F:=aI @Int.natCast_nonneg (aI @Int.ofNat_lt (aI hjl (aI (nM hjl) (aI h12_35 h12_41))));iterate 6 refine SF ?_
   refine T2 (hK _ _ _ ?_);clear hK K;refine CT rfl ?_;refine R0 ?_;refine aF (RT Tryz.results99 ?_);have hg:gE cs[j]=false:=kY (.inr (.inl (eq_of_beq h12_41)));exact aG [] (.bool false) rfl (by rw[hpv];congr 1;exact(List.all_eq_false.2 ⟨_,List.getElem_mem hjl,by rw[hg];simp⟩).symm)
  have F:=aI @Int.natCast_nonneg (aI @Int.ofNat_lt (aI hjl (aI (nM hjl) (aI h12_35 h12_41))));iterate 6 refine SF ?_
  refine aE 48 rfl (fun h12_48=>?_) (fun h12_48=>?_)
  · simp only[h12_48];refine T2 (hK _ _ _ ?_);clear hK K;refine CT rfl ?_;refine R0 ?_;refine aF (RT Tryz.results99 ?_);have hg:gE cs[j]=false:=kY (.inr (.inr (eq_of_beq h12_48)));exact aG [] (.bool false) rfl (by rw[hpv];congr 1;exact(List.all_eq_false.2 ⟨_,List.getElem_mem hjl,by rw[hg];simp⟩).symm)
  simp only[h12_48];refine T2 (hK _ _ _ ?_);clear hK K;refine CF rfl ?_;refine aK ?_;refine T0 (hK _ _ _ ?_);clear hK K;refine aM (by kernel_rfl) ?_;refine TQ (jP j) ?_;have hg:gE cs[j]=true:=zO (by simpa using h12_35) (by simpa using h12_41) (by simpa using h12_48);refine⟨⟨j+1,hjl,rR (p:=fun x=>!gE x) hjl (by rw[hg];rfl) hg0⟩,fF,?_⟩;show cs.length-(j+1)<cs.length-j;omega
 refine bA (T3 ?_);clear hK K;refine AX (hK _ _ _ ?_);clear hK K;refine R0 ?_;refine aF (RT Tryz.results99 ?_);have hej:j=cs.length:=by simp at hb;omega
 rw[hej,List.take_length]at hg0;exact aG [] (.bool true) rfl (by rw[hpv];congr 1;exact(List.all_eq_true.2 fun x hx=>by simpa using hg0 x hx).symm)
theorem cM2 :lst []=cJ:=by funext j;simp[lst,cJ]
theorem bX6 (x:Pt)(c:UInt8):cH7 Tryz.prog 114 140 x.cv [u8 c] (fun v=>v= .bool (c==x.c)):=by
 show HFn _ _ [.c (u8 c),.ptr 0 0] 1 _ _;refine bS (args:=[.c (u8 c),.ptr 0 0]) Tryz.func114 rfl (by kernel_rfl) (yN _ _ [u8 c]) (Nat.le_of_ble_eq_true rfl) ?_;refine R0 ?_;refine aC fun K hK=>Rg ?_;have F:=aI @Pt.get_c @wH;iterate 5 refine SF ?_
 refine T2 (hK _ _ _ ?_);clear hK K;refine aF (RT Tryz.results114 ?_);refine aR2 [] (.bool (c==x.c)) x.cv rfl rfl (by simp[HV.close,HV.norm,HV.toC,Pt.denil]) (by simp) rfl rfl
theorem bF1 (x:Pt)(hk:x.k=0):HGe Tryz.prog 97 [.c x.cv] [] (fun r os=>r= .clo 114 [.ptr 0 0]∧os=[.box 140 (.c x.cv)]):=by
 show HFn _ _ [.c x.cv] 0 (lst []) _;rw[cM2];refine bS (args:=[.c x.cv]) Tryz.func97 rfl (by kernel_rfl) (iU [x.cv]) (Nat.le_of_ble_eq_true rfl) ?_;have hd0:((x.k:Int)==0)=true:=by rw[hk];rfl
 have F:=aI @Pt.cells (aI @Pt.isAgg @Pt.getAll);refine RF ?_;refine aC fun K hK=>?_;have F:=@Pt.get_k;refine RF ?_;refine aL ?_;have F:=hd0;refine RF ?_;refine CT rfl ?_;refine R0 ?_;refine aF (RT Tryz.results97 ?_);refine dZ [] [0] (.clo 114 [.ptr 0 0]) [.box 140 (.c x.cv)] rfl ?_ ?_ rfl (by simp) (by simp) (by simp) ⟨rfl,rfl⟩
 · simp[HV.men,HV.menL]
 refine⟨⟨by simp[HO.men,HV.men],by simp,.box 140 (.c x.cv),rfl,?_⟩,trivial⟩;simp[fN,HV.close,HV.norm,HV.toC,Pt.denil,HO.ren,HV.ren]
theorem bF2 (x:Pt)(hk:x.k=3):bV Tryz.prog 97 [x.cv] (fun v=>v= .fn 115):=by
 refine FW Tryz.func97 ?_;have hd0:((x.k:Int)==0)=false:=by rw[hk];rfl
 have hd3:((x.k:Int)==3)=true:=by rw[hk];rfl
 have F:=aI @Pt.cells (aI @Pt.isAgg @Pt.getAll);refine RF ?_;refine aC fun K hK=>?_;have F:=@Pt.get_k;refine RF ?_;refine aL ?_;have F:=hd0;refine RF ?_;refine CF rfl ?_;have F:=hd3;refine RF ?_;refine CT rfl ?_;refine R0 ?_;refine aF (RT Tryz.results97 ?_);exact aG [] (.fn 115) rfl rfl
theorem zP (x:Pt)(hk:x.k=1∨x.k=2):bV Tryz.prog 97 [x.cv] (fun v=>v= .fn 116):=by
 refine FW Tryz.func97 ?_;have hd0:((x.k:Int)==0)=false:=by rcases hk with h|h<;>rw[h]<;>rfl
 have hd3:((x.k:Int)==3)=false:=by rcases hk with h|h<;>rw[h]<;>rfl
 have F:=aI @Pt.cells (aI @Pt.isAgg @Pt.getAll);refine RF ?_;refine aC fun K hK=>?_;have F:=@Pt.get_k;refine RF ?_;refine aL ?_;have F:=hd0;refine RF ?_;refine CF rfl ?_;have F:=hd3;refine RF ?_;refine CF rfl ?_;refine aK ?_;refine T0 (hK _ _ _ ?_);clear hK K;refine R0 ?_;refine aF (RT Tryz.results97 ?_);exact aG [] (.fn 116) rfl rfl
theorem bO3 (x:Pt)(hx:x.k≤3)(c:UInt8):bV Tryz.prog 101 [x.cv,u8 c] (fun v=>v= .bool (x.takes c)):=by
 refine FW Tryz.func101 ?_;have F:=aI @Pt.cells (aI @Pt.isAgg @Pt.getAll);refine RF ?_;by_cases h0:x.k=0
 ·
  by_cases hc:(x.c==c)=true
  ·
   have d0:((x.k:Int)==0)=true:=by rw[h0];rfl
   have d1:((x.k:Int)==1)=false:=by rw[h0];rfl
   have d2:((x.k:Int)==2)=false:=by rw[h0];rfl
   have d3:((x.k:Int)==3)=false:=by rw[h0];rfl
   have h47:((c.toNat:Int) !=47)=!(c==47):=bE1 c 47;refine aC fun K hK=>Rg ?_;have F:=aI @Pt.get_k (aI @Pt.get_c (aI @wH (aI d0 (aI d1 (aI d2 (aI d3 (aI h47 hc)))))));iterate 29 refine SF ?_
   refine T2 (hK _ _ _ ?_);clear hK K;refine aF (RT Tryz.results101 ?_);exact aG [] (.bool true) rfl (by unfold Pt.takes;rw[if_pos h0,BEq.comm,hc])
  have hc0:(x.c==c)=false:=by simpa using hc
  have d0:((x.k:Int)==0)=true:=by rw[h0];rfl
  have d1:((x.k:Int)==1)=false:=by rw[h0];rfl
  have d2:((x.k:Int)==2)=false:=by rw[h0];rfl
  have d3:((x.k:Int)==3)=false:=by rw[h0];rfl
  have h47:((c.toNat:Int) !=47)=!(c==47):=bE1 c 47;refine aC fun K hK=>Rg ?_;have F:=aI @Pt.get_k (aI @Pt.get_c (aI @wH (aI d0 (aI d1 (aI d2 (aI d3 (aI h47 hc0)))))));iterate 29 refine SF ?_
  refine T2 (hK _ _ _ ?_);clear hK K;refine aF (RT Tryz.results101 ?_);exact aG [] (.bool false) rfl (by unfold Pt.takes;rw[if_pos h0,BEq.comm,hc0])
 by_cases h3:x.k=3
 ·
  have d0:((x.k:Int)==0)=false:=by rw[h3];rfl
  have d1:((x.k:Int)==1)=false:=by rw[h3];rfl
  have d2:((x.k:Int)==2)=false:=by rw[h3];rfl
  have d3:((x.k:Int)==3)=true:=by rw[h3];rfl
  have h47:((c.toNat:Int) !=47)=!(c==47):=bE1 c 47;refine aC fun K hK=>Rg ?_;have F:=aI @Pt.get_k (aI @Pt.get_c (aI @wH (aI d0 (aI d1 (aI d2 (aI d3 h47))))));iterate 29 refine SF ?_
  refine T2 (hK _ _ _ ?_);clear hK K;refine aF (RT Tryz.results101 ?_);exact aG [] (.bool true) rfl (by unfold Pt.takes;rw[if_neg h0,if_pos h3])
 by_cases h1:x.k=1
 ·
  have d0:((x.k:Int)==0)=false:=by rw[h1];rfl
  have d1:((x.k:Int)==1)=true:=by rw[h1];rfl
  have d2:((x.k:Int)==2)=false:=by rw[h1];rfl
  have d3:((x.k:Int)==3)=false:=by rw[h1];rfl
  have h47:((c.toNat:Int) !=47)=!(c==47):=bE1 c 47;refine aC fun K hK=>Rg ?_;have F:=aI @Pt.get_k (aI @Pt.get_c (aI @wH (aI d0 (aI d1 (aI d2 (aI d3 h47))))));iterate 29 refine SF ?_
  refine T2 (hK _ _ _ ?_);clear hK K;refine aF (RT Tryz.results101 ?_);exact aG [] (.bool (!(c==47))) rfl (by unfold Pt.takes;rw[if_neg h0,if_neg h3])
 have d0:((x.k:Int)==0)=false:=by rw[show x.k=2 by omega];rfl
 have d1:((x.k:Int)==1)=false:=by rw[show x.k=2 by omega];rfl
 have d2:((x.k:Int)==2)=true:=by rw[show x.k=2 by omega];rfl
 have d3:((x.k:Int)==3)=false:=by rw[show x.k=2 by omega];rfl
 have h47:((c.toNat:Int) !=47)=!(c==47):=bE1 c 47;refine aC fun K hK=>Rg ?_;have F:=aI @Pt.get_k (aI @Pt.get_c (aI @wH (aI d0 (aI d1 (aI d2 (aI d3 h47))))));iterate 29 refine SF ?_
 refine T2 (hK _ _ _ ?_);clear hK K;refine aF (RT Tryz.results101 ?_);exact aG [] (.bool (!(c==47))) rfl (by unfold Pt.takes;rw[if_neg h0,if_neg h3])
end Go.Proofs.YtlldglbooaefhaaGreatDoor
namespace Go.Pl
open Go Go.Hl
variable {ps:List Pt}{p:aH}
theorem zQ (h:eB p=some ps):ps.length≤200∧ ∀x∈ps,x.k≤3:=by
 unfold eB at h;split at h
 · cases h
 · rename_i hl;obtain⟨h1,h2⟩:=aX0 p.length p ps (Nat.le_refl _) h;grind
variable {s:aH}
theorem tI (h:eB p=none):kE p s=false:=by unfold kE;rw[h]
theorem tJ (h:iD s=false):kE p s=false:=by grind[kE]
theorem tK (h:eB p=some ps)(hs:iD s=true):kE p s=mD ps s ps.length s.length:=by grind[kE]
theorem zR (h:iD s=true):s.length≤200:=by simp_all[iD,Bool.and_eq_true,decide_eq_true_eq]
def bB (n:Nat)(f:Nat→Bool):List CV:=(tab n f).map bC1
theorem aP (n:Nat)(f:Nat→Bool):(bB n f).length=n:=by simp[bB,lP]
variable {i n:Nat}{f:Nat→Bool}
theorem aT (h:i<n):nth (bB n f) i= .bool (f i):=bV4 h
theorem rX (n:Nat):List.replicate n (CV.bool false)=bB n (fun _=>false):=by
 unfold bB;rw[←bE0];simp[bC1]
theorem jI (n:Nat)(f:Nat→Bool)(i:Nat)(b:Bool):(bB n f).set i (.bool b)=bB n (fun j=>if j=i then b else f j):=by
 unfold bB;rw[←bV3,List.map_set];rfl
theorem gP {g:Nat→Bool}(h: ∀i,i<n→f i=g i):bB n f=bB n g:=by unfold bB;rw[uB h]
theorem fD (n:Nat)(f:Nat→Bool):CV.denilL (bB n f)=bB n f:=cB (fun x=>by simp[bC1,CV.denil]) _
theorem bF3 {ps:List Pt}{s:aH}:(bB n (fun _=>false)).set 0 (.bool true)=bB n (fun j=>if j=0 then true else false):=jI _ _ _ _
variable {b:Bool}{k:Nat}
theorem iG (hb:b=(mD ps s k 0&&(prt ps k).long)):(bB n (fun _=>false)).set 0 (.bool b)=bB n (nxt ps s k 0):=by
 rw[jI,hb];congr 1;grind[bL6]
theorem fR (hb:b=mD ps s (k+1) (i+1)):(bB n (nxt ps s k i)).set (i+1) (.bool b)=bB n (nxt ps s k (i+1)):=by simp_all[jI,bL7]
theorem uD :bB (s.length+1) (nxt ps s k s.length)=bB (s.length+1) (mD ps s (k+1)):=by
 unfold bB;rw[bV5]
theorem bO4 :bB (s.length+1) (fun j=>if j=0 then true else false)=bB (s.length+1) (mD ps s 0):=by
 unfold bB;rw[bL8]
theorem uE (h:k<ps.length):prt ps k=ps[k]:=by simp[prt,h]
end Go.Pl
