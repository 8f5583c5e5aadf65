/- Part of a proof: walks of functions of the program, by contracts, and the rules they use. By an AI agent. -/
import Derived.Shelf.SlSortCmp.NoneTotal
import Derived.Ground.SlsfProg
import Derived.Test.YthedbjfipmkpiaaGreatDoorHlSe
import Derived.Test.YthedbjfipmkpiaaGreatDoorRows
set_option maxRecDepth 10000
set_option maxHeartbeats 16000000
set_option linter.unusedSimpArgs false
set_option linter.unusedVariables false
set_option linter.defProp false
namespace Go.Proofs.YthedbjfipmkpiaaGreatDoor
open Go.RowKit Go.Sort Go.Shelf
def bE9 :Go.Shelf.Ren:=⟨fun|6=>54|15=>89|14=>88|28=>120|29=>121|20=>112|21=>113|22=>114|23=>115|24=>116|25=>117|26=>118|27=>119|46=>139|47=>140|48=>141|49=>142|50=>143|57=>165|n=>n,fun|22=>39|24=>44|25=>105|3=>3|39=>72|0=>0|53=>168|55=>135|4=>4|46=>162|45=>161|50=>81|5=>5|9=>9|66=>184|70=>188|76=>202|77=>203|n=>n,fun|n=>n⟩
theorem bS7 :Go.Proofs.SlLaysF0.n6 Tryz.prog bE9:={
  mixed:=by kernel_rfl
  f6:=⟨Tryz.f54.name,by decide,Tryz.func54.trans (congrArg some (by kernel_rfl))⟩
  f14:=⟨Tryz.f88.name,by decide,Tryz.func88.trans (congrArg some (by kernel_rfl))⟩
  f15:=Tryz.func89.trans (congrArg some (by kernel_rfl))
  f20:=⟨Tryz.f112.name,by decide,Tryz.func112.trans (congrArg some (by kernel_rfl))⟩
  f21:=⟨Tryz.f113.name,by decide,Tryz.func113.trans (congrArg some (by kernel_rfl))⟩
  f22:=⟨Tryz.f114.name,by decide,Tryz.func114.trans (congrArg some (by kernel_rfl))⟩
  f23:=⟨Tryz.f115.name,by decide,Tryz.func115.trans (congrArg some (by kernel_rfl))⟩
  f24:=⟨Tryz.f116.name,by decide,Tryz.func116.trans (congrArg some (by kernel_rfl))⟩
  f25:=⟨Tryz.f117.name,by decide,Tryz.func117.trans (congrArg some (by kernel_rfl))⟩
  f26:=⟨Tryz.f118.name,by decide,Tryz.func118.trans (congrArg some (by kernel_rfl))⟩
  f27:=⟨Tryz.f119.name,by decide,Tryz.func119.trans (congrArg some (by kernel_rfl))⟩
  f28:=Tryz.func120.trans (congrArg some (by kernel_rfl))
  f29:=Tryz.func121.trans (congrArg some (by kernel_rfl))
  f46:=⟨Tryz.f139.name,by decide,Tryz.func139.trans (congrArg some (by kernel_rfl))⟩
  f47:=Tryz.func140.trans (congrArg some (by kernel_rfl))
  f48:=Tryz.func141.trans (congrArg some (by kernel_rfl))
  f49:=⟨Tryz.f142.name,by decide,Tryz.func142.trans (congrArg some (by kernel_rfl))⟩
  f50:=⟨Tryz.f143.name,by decide,Tryz.func143.trans (congrArg some (by kernel_rfl))⟩
  f57:=⟨Tryz.f165.name,by decide,Tryz.func165.trans (congrArg some (by kernel_rfl))⟩
  t0:=Tryz.underlying0
  a0:=Tryz.isAgg0
  z0:=Tryz.sizeOf0
  v0:=Tryz.zeroValue0
  t3:=Tryz.underlying3
  a3:=Tryz.isAgg3
  z3:=Tryz.sizeOf3
  v3:=Tryz.zeroValue3
  t4:=Tryz.underlying4
  a4:=Tryz.isAgg4
  z4:=Tryz.sizeOf4
  v4:=Tryz.zeroValue4
  t5:=Tryz.underlying5
  a5:=Tryz.isAgg5
  z5:=Tryz.sizeOf5
  v5:=Tryz.zeroValue5
  t9:=Tryz.underlying9
  a9:=Tryz.isAgg9
  z9:=Tryz.sizeOf9
  v9:=Tryz.zeroValue9
  t22:=Tryz.underlying39
  a22:=Tryz.isAgg39
  z22:=Tryz.sizeOf39
  v22:=Tryz.zeroValue39
  t25:=Tryz.underlying105
  a25:=Tryz.isAgg105
  z25:=Tryz.sizeOf105
  v25:=Tryz.zeroValue105
  t39:=Tryz.underlying72
  a39:=Tryz.isAgg72
  z39:=Tryz.sizeOf72
  v39:=Tryz.zeroValue72
  t45:=Tryz.underlying161
  a45:=Tryz.isAgg161
  z45:=Tryz.sizeOf161
  v45:=Tryz.zeroValue161
  t46:=Tryz.underlying162
  a46:=Tryz.isAgg162
  z46:=Tryz.sizeOf162
  v46:=Tryz.zeroValue162
  t50:=Tryz.underlying81
  a50:=Tryz.isAgg81
  z50:=Tryz.sizeOf81
  v50:=Tryz.zeroValue81
  t53:=Tryz.underlying168
  a53:=Tryz.isAgg168
  z53:=Tryz.sizeOf168
  v53:=Tryz.zeroValue168
  t55:=Tryz.underlying135
  a55:=Tryz.isAgg135
  z55:=Tryz.sizeOf135
  v55:=Tryz.zeroValue135
  t66:=Tryz.underlying184
  a66:=Tryz.isAgg184
  z66:=Tryz.sizeOf184
  v66:=Tryz.zeroValue184
  t70:=Tryz.underlying188
  a70:=Tryz.isAgg188
  z70:=Tryz.sizeOf188
  v70:=Tryz.zeroValue188
  t76:=Tryz.underlying202
  a76:=Tryz.isAgg202
  z76:=Tryz.sizeOf202
  v76:=Tryz.zeroValue202
  t77:=Tryz.underlying203
  a77:=Tryz.isAgg203
  z77:=Tryz.sizeOf203
  v77:=Tryz.zeroValue203}
theorem cO5 (l:List Pl.Dig)(hl:l.length<2^40):Hl.bM0 Tryz.prog (J fun x y:Pl.Dig=>Hl.mB x.1 y.1) 54 55 44 l:=
  Hl.cA6 (by kernel_rfl) (fun blk cap w hH hb=>(AnyQ.slices_SortFunc bS7 32 Tryz.isAgg44 Tryz.sizeOf44 Hl.eY Hl.oH (fun x v U=>by obtain⟨b,_,rfl⟩:=H0.1 U;rfl) (fun x y=>Hl.mB x.1 y.1) cO4 55 #[] blk 0 cap l.toArray w
    (enters_of Tryz.func55 (by kernel_rfl) rfl) (bL9 blk _ w) hH hb (by simp;omega)).mono (fun _ _ ⟨h1,d',n,os,h2,I,h3⟩=>⟨h1,d',n,os,by simpa using h2,by simpa using I,h3⟩)) (fun cap w=>AnyF.slices_SortFunc_none bS7 none cap _ w)
end Go.Proofs.YthedbjfipmkpiaaGreatDoor
namespace Go.Proofs.YthedbjfipmkpiaaGreatDoor
open Go Go.Hl Go.Pl
theorem aH2 {X:List Ln}{i:Nat}(h:i<X.length):fQ (X.take (i+1))=fQ (X.take i)++X[i].d:=by
 unfold fQ;rw[A5 h,O7];simp only[G3,I9,J7]
theorem docsL_le (X:List Ln)(i:Nat):(fQ (X.take i)).length≤(fQ X).length:=by
 have h:fQ X=fQ (X.take i)++fQ (X.drop i):=by
  unfold fQ;rw[←List.flatMap_append,K9]
 rw[h,A3];omega
open Go.Sort Go.RowKit Go.Shelf in
theorem dG6 (a b:Dig):ltOf (fun x y:Dig=>mB x.1 y.1) a b=slt a.1 b.1:=by
 show decide (mB a.1 b.1<0)=slt a.1 b.1;unfold mB;by_cases h:slt a.1 b.1=true
 · simp[h]
 have h':slt a.1 b.1=false:=by simpa using h
 rw[h'];by_cases I:a.1=b.1<;>simp[I]
theorem cY4 (d:Dv)(hl:d.l.length<2^38)(hd:(fQ d.l).length<2^38):bM Tryz.prog 24 [d.cv] (fun v=> ∃K:List Dig,v= .slc (K.map dg)∧dws K=cL6 d.l):=by
 refine FW Tryz.func24 ?_;refine R0 ?_;refine R0 ?_;refine aC fun K I=>?_;refine AU ?_;refine aL ?_;refine eH 3 0 44 32 rfl rfl rfl rfl ?_;refine bB (α:={i:Nat//i≤d.l.length}) (fun i=>(fin [(3,.own 28 (fQ (d.l.take i.1)).length),(7,.c (.slc (d.l.map Ln.cv))),(8,.c (.int .i64 d.l.length)),(9,.c (.int .i64 i.1))],fob [(28,.row 44 32 ((fQ (d.l.take i.1)).map dg))])) 200 (fun i=>d.l.length-i.1) ⟨0,by omega⟩ (fG (by simp[fQ])) ?_;rintro⟨i,hi⟩;refine R0 ?_;refine aC fun K I=>?_;refine aJ (b:=decide ((i:Int)<d.l.length)) rfl (fun hb=>?_) (fun hb=>?_)
 ·
  have U:i<d.l.length:=by have:=F9 hb;omega
  have hle:=docsL_le d.l (i+1);rw[aH2 U,A3]at hle;have ab:(∀v∈d.l[i].d.map dg,v.cells=32)=True:=FN fun v hv=>by
   obtain⟨x,_,rfl⟩:=H0.1 hv;exact dg_cells x
  clear hb;refine aG ?_;refine T0 (I _ _ _ ?_);clear I K;refine aC fun K I=>?_;refine aL ?_;refine RS ?_;have F:=aI @A1 (aI @A4 (aI U (nM U)));refine AU ?_;refine Rg ?_;have F:=aI @A0.{0,0} ab;refine AU ?_;refine T2 (I _ _ _ ?_);clear I K;refine aM (by kernel_rfl) ?_;refine TQ (cW i) ?_;refine⟨⟨i+1,by omega⟩,(fG (by simp[aH2 U,C5,A3])),?_⟩;show d.l.length-(i+1)<d.l.length-i;omega
 have aa:i=d.l.length:=by have:=G7 hb;omega
 subst aa;clear hb;rw[C6];refine aV (T3 ?_);clear I K;refine AX (I _ _ _ ?_);clear I K;refine aC fun K I=>Rg ?_;refine S0 ?_;refine HS rfl rfl fun K' J=>T5 ?_;refine bM1 (cO5 (fQ d.l) (by omega)) rfl (by simp) (by simp) ⟨rfl,rfl,rfl,rfl⟩ ?_;rintro s hp hs;have ad:=hp.length_eq;refine AX (J _ _ ?_);clear J K';refine T2 (I _ _ _ ?_);clear I K;refine aC fun K I=>Rg ?_;refine S0 ?_;refine HS rfl rfl fun K' J=>T5 ?_;refine cF6 (bE6 s (by omega)) (by simp) (by simp) rfl (by simp;omega) (by simp) ⟨rfl,rfl,rfl,rfl⟩ ?_;rintro l' ⟨Q,rfl,hQ⟩;refine AX (J _ _ ?_);clear J K';refine S0 ?_;refine T2 (I _ _ _ ?_);clear I K;refine aE (RT Tryz.results24 ?_);refine aF [216] (.slc (Q.map dg)) (by simp[cS6]) ⟨Q,rfl,?_⟩;rw[hQ,cL6];refine bZ5 hp (hs.imp fun {a b} h=>?_);rw[←dG6];exact h
end Go.Proofs.YthedbjfipmkpiaaGreatDoor
namespace Go.Pl
open Go Go.Hl
def tr1 :List Nd:=[⟨1,0,0,⟨1,1,0,[]⟩⟩]
def sp1 :List Sp:=[⟨true,[dg1 4],0⟩]
def ln1 :List Ln:=[⟨1,0,[dg1 4],[]⟩,⟨5,0,[],[0]⟩]
def dv1 :Dv:={dv0 with l:=ln1}
theorem dB9 :eV tr1 (cJ sp1)=true:=by decide+kernel
theorem dG7 :eL tr1 sp1=ln1:=by
 have h:qB tr1 sp1=[⟨1,0,[dg1 4],[]⟩]:=rfl;unfold eL;rw[B1 dB9,h];rfl
theorem bM2 :fV dv1=[[wDer,[],[],kQ zdg,[48],kQ zdg,[48]],[wOrg,kQ zdg,[],[]],[oB,[48]],[wDoc,kQ (dg1 4)],[xL,[48],[48]]]:=by
 simp only[fV,lA,dv1,dv0,qs0,og0,ln1,G3,I9,eD,firstL,wordK,aN6,B8,F2,nH,J4,J1,G4];rfl
theorem dG8 :dvE dv1=0:=by
 unfold dvE;rw[B1 (by decide+kernel),bM2];decide+kernel
theorem cO6 :ddE (dvO dv1)=0∧(ddO (dvO dv1)).l.length=2:=by
 obtain⟨U,I,J⟩:=bC1 dG8 rfl;rw[I,J];exact⟨rfl,rfl⟩
end Go.Pl
namespace Go.Proofs.YthedbjfipmkpiaaGreatDoor
open Go Go.Hl Go.Pl
theorem dL3 :DvW dv1:=by
 refine⟨by decide,by decide,fun x hx=>?_,by rw[bM2];decide,by decide⟩;simp only[dv1,ln1,E0,H7,N6]at hx;rcases hx with rfl|rfl
 · exact⟨by decide,by decide,by simp,by simp,by simp⟩
 exact⟨by decide,by decide,fun n hn=>by obtain rfl:=List.mem_singleton.1 hn;decide,by simp,by simp⟩
theorem cY5 :(dvO dv1).length<2^40:=by
 have h:dvO dv1=jZ (fV dv1):=(aT8 dG8).2.2;rw[h,bM2];decide+kernel
theorem dL4 :(cL6 dv1.l).length=1:=by decide+kernel
theorem bF0 :qD Tryz.prog 17 tabs [] (fun v=>v= .bool true):=by
 refine bO (args:=[]) Tryz.func17 rfl (by kernel_rfl) (iP tabs []) (C7 rfl) ?_;unfold iM;refine R0 ?_;refine aC fun K U=>aY (by kernel_rfl) ?_;simp only[sR,simprocAttr];iterate 2 refine SG0 ?_
 refine cN (g:=none) 13 rfl rfl fun J I=>?_;simp only[gH,kC,sH,↓sP,sA,tyS,simprocAttr];repeat refine AI ?_
 refine cO (by first|rfl|simp) ?_;try simp only[sH,↓sP,sA,tyS,simprocAttr]
 refine AX (I _ _ ?_);clear I J;refine SG0 ?_;refine T2 (U _ _ _ ?_);clear U K;refine aC fun K U=>aY (by kernel_rfl) ?_;simp only[sR,simprocAttr];iterate 2 refine SG0 ?_
 refine cN (g:=none) 29 rfl rfl fun J I=>?_;simp only[gH,kC,sH,↓sP,sA,tyS,simprocAttr];repeat refine AI ?_
 refine cO (by first|rfl|simp) ?_;try simp only[sH,↓sP,sA,tyS,simprocAttr]
 refine AX (I _ _ ?_);clear I J;refine SG0 ?_;refine cN (g:=none) 37 rfl rfl fun J I=>?_;simp only[gH,kC,sH,↓sP,sA,tyS,simprocAttr];repeat refine AI ?_
 refine cO (by first|rfl|simp) ?_;try simp only[sH,↓sP,sA,tyS,simprocAttr]
 refine AX (I _ _ ?_);clear I J;refine cE (g:=none) rfl rfl fun J I=>T5 ?_;refine D2 (cO3 tr1 (by simp[tr1]) sp1 (by decide) (by simp[sp1])) ?_;rintro u v ⟨rfl,rfl⟩;rw[dB9,dG7];refine AX (I _ _ ?_);clear I J;iterate 5 refine SG0 ?_
 refine T2 (U _ _ _ ?_);clear U K;refine RS ?_;have F:=aI @bG @bH;refine AU ?_;refine aZ (fr2:=fin [(2,.c (.slc (ln1.map Ln.cv))),(3,.c (.bool true)),(4,.ptr 73 0)]) (ob2:=fob [(0,.tab tabs),(73,.box 50 (.c dv1.cv))]) (nx2:=100) (bA (by omega) (by simp) (by simp;rfl)) ?_;refine aC fun K U=>Rg ?_;refine S0 ?_;refine HS rfl rfl fun J I=>T5 ?_;refine fO (args:=[_]) 0 (aF3 dv1 dL3) rfl (by simp) ⟨rfl,rfl,rfl,rfl⟩ ?_;rintro u v ⟨rfl,rfl⟩;rw[dG8];refine AX (I _ _ ?_);clear I J;refine AU ?_;refine T2 (U _ _ _ ?_);clear U K;refine aC fun K U=>Rg ?_;have F:=@bT;refine SF ?_;refine HS rfl rfl fun J I=>T6 ?_;refine fO (args:=[_]) 0 (bS4 (dvO dv1) cY5) rfl (by simp) ⟨rfl,rfl,rfl,rfl⟩ ?_;rintro u v ⟨rfl,rfl⟩;rw[cO6.1];refine AX (I _ _ ?_);clear I J;refine AU ?_;refine T2 (U _ _ _ ?_);clear U K;refine aC fun K U=>Rg ?_;iterate 8 refine S0 ?_ (e:=fun _ h_=>by simp only[sH,↓sP,sA,tyS,simprocAttr,A0,(show((ln1.length:Int)==2)=true from rfl),cO6.2,(show(((2:Nat):Int)==2)=true from rfl),(show(((1:Nat):Int)==1)=true from rfl)];exact AX h_)
 refine aX (g:=some (39,true)) rfl rfl fun J I=>?_;simp only[sH,↓sP,sA,tyS,simprocAttr,A0,(show((ln1.length:Int)==2)=true from rfl),cO6.2,(show(((2:Nat):Int)==2)=true from rfl),(show(((1:Nat):Int)==1)=true from rfl)];refine C1 (cY4 dv1 (by decide) (by decide)) ?_;rintro u ⟨D0,rfl,ab⟩;have aa:D0.length=1:=by rw[←iE,ab,dL4]
 refine AX (I _ _ ?_);clear I J;refine aX (g:=some (39,true)) rfl rfl fun J I=>?_;simp only[sH,↓sP,sA,tyS,simprocAttr,A0,(show((ln1.length:Int)==2)=true from rfl),cO6.2,(show(((2:Nat):Int)==2)=true from rfl),(show(((1:Nat):Int)==1)=true from rfl)];rw[aa];refine AX (I _ _ ?_);clear I J;iterate 17 refine S0 ?_ (e:=fun _ h_=>by simp only[sH,↓sP,sA,tyS,simprocAttr,A0,(show((ln1.length:Int)==2)=true from rfl),cO6.2,(show(((2:Nat):Int)==2)=true from rfl),(show(((1:Nat):Int)==1)=true from rfl)];exact AX h_)
 refine T2 (U _ _ _ ?_);clear U K;refine aE (RT Tryz.results17 ?_);exact oX [] (.bool true) rfl rfl (by simp) rfl
theorem lB (w:aK)(hl:w.length<2^40):bM Tryz.prog 72 [.str w] (fun v=>v= .str (gY w)):=by
 refine FW Tryz.func72 ?_;refine R0 ?_;refine aC fun K I=>?_;refine R0 ?_;refine aJ (b:=w==[]) rfl (fun U=>?_) (fun U=>?_)
 · refine R0 ?_;refine aE (RT Tryz.results72 ?_);exact aF [] (.str [126]) rfl (by rw[gY,B1 (by simpa using U)])
 refine aG ?_;refine T0 (I _ _ _ ?_);clear I K;have ad:w≠[]:=by simpa using U
 clear U;refine R0 ?_;refine R0 ?_;refine aC fun K I=>?_;refine R0 ?_;refine aL ?_;refine eH 4 0 5 1 rfl rfl rfl rfl ?_;refine bB (α:={i:Nat//i≤w.length}) (fun i=>(fin [(0,.c (.str w)),(3,.c (.str [48,49,50,51,52,53,54,55,56,57,65,66,67,68,69,70])),(4,.own 24 (dG (w.take i.1)).length),(5,.c (.int .i64 i.1))],fob [(24,.row 5 1 ((dG (w.take i.1)).map cM))])) 100 (fun i=>w.length-i.1) ⟨0,by omega⟩ (fF) ?_;rintro⟨i,hi⟩;have hle:=nG w i;have ag:=uT w;refine aC fun K I=>?_;refine AU ?_;refine aJ (b:=decide ((i:Int)<w.length)) rfl (fun U=>?_) (fun U=>?_)
 ·
  have J:i<w.length:=by simpa using U
  have hgd:w.getD i 0=w[i]:=by simp[J]
  have hs:=tA J;refine aG ?_;refine T0 (I _ _ _ ?_);clear I K;refine aC fun K I=>?_;refine aL ?_;refine aC fun K I=>Rg ?_;iterate 3 refine S0 ?_ (e:=fun _ h_=>by simp only[sH,↓sP,sA,tyS,simprocAttr,A1,A4,J,hgd];exact AX h_)
  refine HS rfl rfl fun K' aa=>?_;simp only[sH,↓sP,sA,tyS,simprocAttr,A1,A4,J,hgd];refine C1 (xM w[i]) ?_;rintro u rfl;refine AX (aa _ _ ?_);clear aa K';refine T2 (I _ _ _ ?_);clear I K;refine aJ (b:=cX w[i]) rfl (fun U=>?_) (fun U=>?_)
  ·
   refine Rg ?_;iterate 7 refine S0 ?_ (e:=fun _ h_=>by simp only[sH,↓sP,sA,tyS,simprocAttr,A1,A4,J,hgd,A3,A0];exact AX h_)
   refine T2 (I _ _ _ ?_);clear I K;refine aM (by kernel_rfl) ?_;refine TQ (cW i) ?_;refine⟨⟨i+1,J⟩,bA (by omega) ?_ ?_,?_⟩
   · rw[hs,lH,B1 U];simp
   · rw[hs,lH,B1 U,C5];exact⟨rfl,by omega,trivial,trivial⟩
   show w.length-(i+1)<w.length-i;omega
  have ab:((w[i].toNat/16:Nat):Int)<16:=by have:=w[i].toNat_lt;omega
  have ae:((w[i].toNat%16:Nat):Int)<16:=by omega
  refine DW [(0,[],[]),(1,[],[]),(2,[],[]),(3,[],[]),(4,[],[]),(5,[],[]),(6,[],[]),(7,[],[]),(8,[],[]),(9,[],[]),(10,[],[]),(11,[],[]),(12,[],[]),(13,[],[]),(14,[],[]),(15,[],[])] [0,0,0,0,12,28,62,0,0,0,768,1792,3968,8190,16383,32767] ?_;iterate 16 refine W0 ?_ (e:=fun _ h_=>by simp only[sH,↓sP,sA,tyS,simprocAttr,A1,A4,J,hgd,A3,A0,dE1,cG9,ab,ae];exact AX h_)
  refine T2 (I _ _ _ ?_);clear I K;refine aM (by kernel_rfl) ?_;refine TQ (cW i) ?_;refine⟨⟨i+1,J⟩,bA (by omega) ?_ ?_,?_⟩
  · rw[hs,lH,A7 (by rw[U];simp)];simp
  · rw[hs,lH,A7 (by rw[U];simp),C5];exact⟨rfl,by omega,trivial,trivial⟩
  show w.length-(i+1)<w.length-i;omega
 refine aV (T3 ?_);clear I K;refine AX (I _ _ _ ?_);clear I K;refine bW [24] (aZ (fr2:=fin [(4,.c (.slc ((dG (w.take i)).map cM)))]) (ob2:=fob []) (nx2:=200) (bA (by omega) (by simp[bT]) (by simp)) ?_);have F:=@bytesC_map;refine RF ?_;refine aE (RT Tryz.results72 ?_);have af:i=w.length:=by simp at U;omega
 subst af;exact aF [] (.str (dG w)) (by rw[C6];rfl) (by rw[gY,A7 ad])
theorem bS8 (ls:List (List aK))(h0:ls.length<2^40)(h1: ∀l∈ls,l.length<2^40):fH Tryz.prog 35 [.slc (ls.map fun l=> .slc (l.map .str))] (fun u v=>u= .slc ((jZ ls).map cM)∧v= .int .i64 (jN ls)):=by
 refine FW Tryz.func35 ?_;refine R0 ?_;refine aC fun K J=>?_;refine R0 ?_;refine aJ (b:=decide ((1000:Int)<ls.length)) rfl (fun I=>?_) (fun I=>?_)
 · refine R0 ?_;refine aE (RT Tryz.results35 ?_);have hE:=nY (ls:=ls) (by simp at I;omega);refine aO [] (.slc []) (.int .i64 3) ?_ ⟨by rw[kY (by rw[hE];decide)];rfl,by rw[hE]⟩;simp
 refine aG ?_;refine T0 (J _ _ _ ?_);clear J K;have hn:ls.length≤1000:=by simp at I;omega
 clear I;refine R0 ?_;refine aC fun K J=>?_;refine R0 ?_;refine aL ?_;refine eH 4 0 5 1 rfl rfl rfl rfl ?_;refine bB (α:={i:Nat//i≤ls.length∧ ∀x∈ls.take i,okL x=true}) (fun i=>(fin [(0,.c (.slc (ls.map fun l=> .slc (l.map .str)))),(4,.own 28 (dU (ls.take i.1)).length),(5,.c (.int .i64 i.1))],fob [(28,.row 5 1 ((dU (ls.take i.1)).map cM))])) 100 (fun i=>ls.length-i.1) ⟨0,by omega,by simp⟩ (fF) ?_;rintro⟨i,hi,hk⟩;refine aC fun K J=>?_;refine AU ?_;refine aJ (b:=decide ((i:Int)<ls.length)) rfl (fun I=>?_) (fun I=>?_)
 ·
  have aa:i<ls.length:=by simpa using I
  clear I;have ax:=h1 ls[i] (B5 aa);have ay: ∀l∈ls.take i,l≠[]:=fun l hl=>((eG l).1 (hk l hl)).1;have bb:=zN hk;rw[E1]at bb;have bc:=kX ay;have ai:=rE aa;obtain⟨l,hl⟩: ∃l,l=ls[i]:=⟨_,rfl⟩;have ad:nth (ls.map fun l=>CV.slc (l.map .str)) i= .slc (l.map .str):=by rw[aW aa,hl]
  rw[←hl]at ai ax;have aq:(i:Int)<ls.length:=by omega
  refine aG ?_;refine T0 (J _ _ _ ?_);clear J K;refine aC fun K J=>?_;refine aL ?_;refine aC fun K J=>?_;refine RS ?_;have F:=aI @A1 (aI @A4 (aI aa ad));refine AU ?_;refine aJ (b:=(l.length:Int)==0) rfl (fun I=>?_) (fun I=>?_)
  ·
   refine R0 ?_;refine aE (RT Tryz.results35 ?_);have hc:gZ l=1:=by rw[gZ,B1 (by simp at I;simp[I])]
   have hE:=fY hn aa hk (by rw[←hl,okL,hc];rfl);rw[←hl,hc]at hE;refine aO [] (.slc []) (.int .i64 1) ?_ ⟨by rw[kY (by rw[hE];decide)];rfl,by rw[hE]⟩;simp
  refine aG ?_;refine T0 (J _ _ _ ?_);clear J K;refine aC fun K J=>?_;have an:l.length≠0:=by simp at I;simp[I]
  clear I;refine AU ?_;refine aJ (b:=decide ((120:Int)<l.length)) rfl (fun I=>?_) (fun I=>?_)
  ·
   refine R0 ?_;refine aE (RT Tryz.results35 ?_);have hc:gZ l=3:=by rw[gZ,A7 an,B1 (by simp at I;omega)]
   have hE:=fY hn aa hk (by rw[←hl,okL,hc];rfl);rw[←hl,hc]at hE;refine aO [] (.slc []) (.int .i64 3) ?_ ⟨by rw[kY (by rw[hE];decide)];rfl,by rw[hE]⟩;simp
  refine aG ?_;refine T0 (J _ _ _ ?_);clear J K;refine aC fun K J=>?_;have az:l.length≤120:=by simp at I;omega
  clear I;refine R0 ?_;refine aL ?_;refine bB (α:={k:Nat//k≤l.length∧ ∀x∈l.take k,x.length≤32768}) (fun k=>(fin [(0,.c (.slc (ls.map fun l=> .slc (l.map .str)))),(4,.own 28 (dU (ls.take i)++fR (l.take k.1)).length),(5,.c (.int .i64 i)),(6,.c (.int .i64 k.1))],fob [(28,.row 5 1 ((dU (ls.take i)++fR (l.take k.1)).map cM))])) 200 (fun k=>l.length-k.1) ⟨0,by omega,by simp⟩ (fF) ?_;rintro⟨k,bh,aj⟩;have ba:=uV (l.take k) aj;rw[E1]at ba;refine aC fun K J=>?_;refine RS ?_;have F:=aI @A1 (aI aq ad);refine AU ?_;refine aJ (b:=decide ((k:Int)<l.length)) rfl (fun I=>?_) (fun I=>?_)
  ·
   have U:k<l.length:=by simpa using I
   clear I;refine aG ?_;refine T0 (J _ _ _ ?_);clear J K;refine aC fun K J=>?_;refine aL ?_;refine aC fun K J=>?_;refine RS ?_;have F:=aI @A1 (aI @A4 (aI aa (aI ad (aI U (nM U)))));refine AU ?_;refine aJ (b:=decide ((32768:Int)<l[k].length)) rfl (fun I=>?_) (fun I=>?_)
   ·
    refine R0 ?_;refine aE (RT Tryz.results35 ?_);have hc:gZ l=3:=by rw[gZ,A7 an,A7 (by omega),B1];simp only[R4,C4];exact⟨_,B5 U,by simp at I;omega⟩
    have hE:=fY hn aa hk (by rw[←hl,okL,hc];rfl);rw[←hl,hc]at hE;refine aO [] (.slc []) (.int .i64 3) ?_ ⟨by rw[kY (by rw[hE];decide)];rfl,by rw[hE]⟩;simp
   refine aG ?_;refine T0 (J _ _ _ ?_);clear J K;refine aC fun K J=>?_;have ar:l[k].length≤32768:=by simp at I;omega
   clear I;have bg:=mA l[k];have bf:=dA l[k];have bd:=nW l[k];have ae:0<(gY l[k]).length:=by omega
   have ak:=nX U;have af:(dU (ls.take i)).length+(fR (l.take k)).length+(gY l[k]).length≤140737488355328:=by omega
   have ab:(dU (ls.take i)).length+(fR (l.take k)).length+1+(gY l[k]).length≤140737488355328:=by omega
   refine R0 ?_;refine aJ (b:=decide ((0:Int)<k)) rfl (fun I=>?_) (fun I=>?_)
   ·
    refine Rg ?_;have F:=aI @A3.{0} @A0.{0,0};refine AU ?_;refine T2 (J _ _ _ ?_);clear J K;refine Rg ?_;iterate 8 refine S0 ?_ (e:=fun _ h_=>by simp only[sH,↓sP,sA,tyS,simprocAttr,A1,A4,aa,ad,U,aW U,A3,A0,ae,af,ab];exact AX h_)
    refine HS rfl rfl fun K' ah=>?_;simp only[sH,↓sP,sA,tyS,simprocAttr,A1,A4,aa,ad,U,aW U,A3,A0,ae,af,ab];refine C1 (lB l[k] (by omega)) ?_;rintro u rfl;refine AX (ah _ _ ?_);clear ah K';iterate 2 refine S0 ?_ (e:=fun _ h_=>by simp only[sH,↓sP,sA,tyS,simprocAttr,A1,A4,aa,ad,U,aW U,A3,A0,ae,af,ab];exact AX h_)
    refine T2 (J _ _ _ ?_);clear J K;refine aM (by kernel_rfl) ?_;refine TQ (cW k) ?_;have ag:k≠0:=by simp at I;omega
    refine⟨⟨k+1,U,fJ (p:=fun x=>x.length≤32768) U ar aj⟩,bA (by omega) ?_ ?_,?_⟩
    · rw[ak,A7 ag];simp;omega
    · rw[ak,A7 ag];simp only[C5,←List.append_assoc];exact⟨rfl,by omega,trivial,trivial⟩
    show l.length-(k+1)<l.length-k;omega
   refine aG ?_;refine T0 (J _ _ _ ?_);clear J K;refine Rg ?_;iterate 8 refine S0 ?_ (e:=fun _ h_=>by simp only[sH,↓sP,sA,tyS,simprocAttr,A1,A4,aa,ad,U,aW U,A3,A0,ae,af,ab];exact AX h_)
   refine HS rfl rfl fun K' ah=>?_;simp only[sH,↓sP,sA,tyS,simprocAttr,A1,A4,aa,ad,U,aW U,A3,A0,ae,af,ab];refine C1 (lB l[k] (by omega)) ?_;rintro u rfl;refine AX (ah _ _ ?_);clear ah K';iterate 2 refine S0 ?_ (e:=fun _ h_=>by simp only[sH,↓sP,sA,tyS,simprocAttr,A1,A4,aa,ad,U,aW U,A3,A0,ae,af,ab];exact AX h_)
   refine T2 (J _ _ _ ?_);clear J K;refine aM (by kernel_rfl) ?_;refine TQ (cW k) ?_;have ag:k=0:=by simp at I;omega
   refine⟨⟨k+1,U,fJ (p:=fun x=>x.length≤32768) U ar aj⟩,bA (by omega) ?_ ?_,?_⟩
   · rw[ak,B1 ag];simp;omega
   · rw[ak,B1 ag,J1];simp only[C5,←List.append_assoc];exact⟨rfl,by omega,trivial,trivial⟩
   show l.length-(k+1)<l.length-k;omega
  have au:k=l.length:=by simp at I;omega
  subst au;clear I;rw[C6]at*;have ao:okL l=true:=(eG l).2 ⟨fun h=>an (by rw[h];rfl),az,aj⟩;refine aV (T3 ?_);clear J K;refine AX (J _ _ _ ?_);clear J K;refine Rg ?_;have F:=aI @A3.{0} (aI @A0.{0,0} @C6.{0});refine AU ?_;refine T2 (J _ _ _ ?_);clear J K;refine aM (by kernel_rfl) ?_;refine TQ (cW i) ?_;refine⟨⟨i+1,aa,fJ (p:=fun x=>okL x=true) aa (by rw[←hl];exact ao) hk⟩,bA (by omega) ?_ ?_,?_⟩
  · rw[ai,rX];simp;try omega
  · rw[ai,rX];simp only[C5,←List.append_assoc,C6];exact⟨rfl,by omega,trivial,trivial⟩
  show ls.length-(i+1)<ls.length-i;omega
 have aw:i=ls.length:=by simp at I;omega
 subst aw;clear I;rw[C6]at hk;have hE:=oY hn hk;refine aV (T3 ?_);clear J K;refine AX (J _ _ _ ?_);clear J K;refine aC fun K J=>?_;have F:=aI @C6.{0} @A0.{0,0};refine RF ?_;refine aJ (b:=decide ((262144:Int)<(dU ls).length)) rfl (fun I=>?_) (fun I=>?_)
 · refine R0 ?_;refine aE (RT Tryz.results35 ?_);rw[B1 (by simp at I;omega)]at hE;refine aO [] (.slc []) (.int .i64 3) ?_ ⟨by rw[kY (by rw[hE];decide)];rfl,by rw[hE]⟩;simp
 refine aG ?_;refine T0 (J _ _ _ ?_);clear J K;refine R0 ?_;refine aE (RT Tryz.results35 ?_);rw[A7 (by simp at I;omega)]at hE;refine aO [28] (.slc ((dU ls).map cM)) (.int .i64 0) ?_ ⟨by rw[uW hE],by rw[hE]⟩;simp[C8,bT]
theorem pE (n:Int):inN n=fU n:=rfl
def rwK (k:Int):aK:=if k=2 then tH else if k=3 then vH else if k=4 then xK else if k=5 then xL else []
variable {k:Int}
theorem cO7 (h:k≠1):rwK k=wordK k:=by unfold rwK wordK;rw[A7 h]
theorem cO8 (h:k≠1):(rwK k !=[])=inB k 1 5:=by
 by_cases U:1≤k∧k≤5
 ·
  obtain rfl|rfl|rfl|rfl:k=2∨k=3∨k=4∨k=5:=by omega
  all_goals decide
 have J:rwK k=[]:=by
  unfold rwK;rw[A7 (by omega),A7 (by omega),A7 (by omega),A7 (by omega)]
 have I:inB k 1 5=false:=by unfold inB;simp;omega
 rw[J,I];rfl
theorem wC (k:Int):bM Tryz.prog 86 [.int .i64 k] (fun v=>v= .str (rwK k)):=by
 refine FW Tryz.func86 ?_;refine R0 ?_;refine aC fun K hK=>?_;refine R0 ?_;refine aL ?_;refine R0 ?_;refine aJ (b:=(k==2)) rfl (fun hb=>?_) (fun hb=>?_)
 · have I:k=2:=eq_of_beq hb;refine R0 ?_;refine aE (RT Tryz.results86 ?_);first|exact aF [] (.str tH) rfl (by rw[rwK,B1 I])|exact aF [] (.str vH) rfl (by rw[rwK,A7 I,B1 J])|exact aF [] (.str xK) rfl (by rw[rwK,A7 I,A7 J,B1 U])|exact aF [] (.str xL) rfl (by rw[rwK,A7 I,A7 J,A7 U,B1 h5])|exact aF [] (.str []) rfl (by rw[rwK,A7 I,A7 J,A7 U,A7 h5])
 have I:k≠2:=by simpa using hb
 refine R0 ?_;refine aJ (b:=(k==3)) rfl (fun hb=>?_) (fun hb=>?_)
 · have J:k=3:=eq_of_beq hb;refine R0 ?_;refine aE (RT Tryz.results86 ?_);first|exact aF [] (.str tH) rfl (by rw[rwK,B1 I])|exact aF [] (.str vH) rfl (by rw[rwK,A7 I,B1 J])|exact aF [] (.str xK) rfl (by rw[rwK,A7 I,A7 J,B1 U])|exact aF [] (.str xL) rfl (by rw[rwK,A7 I,A7 J,A7 U,B1 h5])|exact aF [] (.str []) rfl (by rw[rwK,A7 I,A7 J,A7 U,A7 h5])
 have J:k≠3:=by simpa using hb
 refine R0 ?_;refine aJ (b:=(k==4)) rfl (fun hb=>?_) (fun hb=>?_)
 · have U:k=4:=eq_of_beq hb;refine R0 ?_;refine aE (RT Tryz.results86 ?_);first|exact aF [] (.str tH) rfl (by rw[rwK,B1 I])|exact aF [] (.str vH) rfl (by rw[rwK,A7 I,B1 J])|exact aF [] (.str xK) rfl (by rw[rwK,A7 I,A7 J,B1 U])|exact aF [] (.str xL) rfl (by rw[rwK,A7 I,A7 J,A7 U,B1 h5])|exact aF [] (.str []) rfl (by rw[rwK,A7 I,A7 J,A7 U,A7 h5])
 have U:k≠4:=by simpa using hb
 refine R0 ?_;refine aJ (b:=(k==5)) rfl (fun hb=>?_) (fun hb=>?_)
 · have h5:k=5:=eq_of_beq hb;refine R0 ?_;refine aE (RT Tryz.results86 ?_);first|exact aF [] (.str tH) rfl (by rw[rwK,B1 I])|exact aF [] (.str vH) rfl (by rw[rwK,A7 I,B1 J])|exact aF [] (.str xK) rfl (by rw[rwK,A7 I,A7 J,B1 U])|exact aF [] (.str xL) rfl (by rw[rwK,A7 I,A7 J,A7 U,B1 h5])|exact aF [] (.str []) rfl (by rw[rwK,A7 I,A7 J,A7 U,A7 h5])
 have h5:k≠5:=by simpa using hb
 refine aG ?_;refine T0 (hK _ _ _ ?_);clear hK K;refine R0 ?_;refine aE (RT Tryz.results86 ?_);first|exact aF [] (.str tH) rfl (by rw[rwK,B1 I])|exact aF [] (.str vH) rfl (by rw[rwK,A7 I,B1 J])|exact aF [] (.str xK) rfl (by rw[rwK,A7 I,A7 J,B1 U])|exact aF [] (.str xL) rfl (by rw[rwK,A7 I,A7 J,A7 U,B1 h5])|exact aF [] (.str []) rfl (by rw[rwK,A7 I,A7 J,A7 U,A7 h5])
variable {x:Ln}
theorem cO9 (h:fU x.n=false):cP x=false:=by unfold cP;rw[h];simp
theorem cA7 (h:x.f.all fU=false):cP x=false:=by
 unfold cP;split
 ·
  have:(x.f==[])=false:=by
   cases hf:x.f with
   |nil=>rw[hf]at h;simp at h
   |cons a l=>rfl
  rw[this];simp
 rw[h];simp
theorem dL5 {α:Type}[BEq α](l:List α):(l==[])=((l.length:Int)==0):=by
 cases l with
 |nil=>rfl
 |cons a l=>
  have:(((a::l).length:Int)==0)=false:=J2.2 (by simp only[A8];omega);rw[this];rfl
theorem cY6 (x:Ln)(hx:x.f.length<2^38):bM Tryz.prog 50 [x.cv] (fun v=>v= .bool (cP x)):=by
 refine FW Tryz.func50 ?_;refine R0 ?_;refine aC fun K J=>?_;refine AU ?_;refine SC (kR x.n) ?_;refine AU ?_;refine aJ (b:=!inN x.n) rfl (fun I=>?_) (fun I=>?_)
 · refine R0 ?_;refine aE (RT Tryz.results50 ?_);exact aF [] (.bool false) rfl (by rw[cO9 (by rw[←pE];simpa using I)])
 have af:fU x.n=true:=by rw[←pE];simpa using I
 clear I;refine aG ?_;refine T0 (J _ _ _ ?_);clear J K;refine aC fun K J=>?_;refine R0 ?_;refine aL ?_;refine bB (α:={i:Nat//i≤x.f.length∧(x.f.take i).all fU=true}) (fun i=>(fin [(1,.ptr 0 0),(3,.c (.int .i64 i.1))],fob [(0,.box 41 (.c x.cv))])) 200 (fun i=>x.f.length-i.1) ⟨0,by omega,by simp⟩ (fF) ?_;rintro⟨i,hi,U⟩;refine aC fun K J=>?_;refine RS ?_;have F:=@A0.{0,0};refine AU ?_;refine aJ (b:=decide ((i:Int)<x.f.length)) rfl (fun I=>?_) (fun I=>?_)
 ·
  have aa:i<x.f.length:=by have:=F9 I;omega
  clear I;refine aG ?_;refine T0 (J _ _ _ ?_);clear J K;refine aC fun K J=>?_;refine aL ?_;refine RS ?_;have F:=aI @A1 (aI @A4 (aI aa (nM aa)));refine AU ?_;refine SCF (kR x.f[i]) ?_;refine AU ?_;refine aJ (b:=!inN x.f[i]) rfl (fun I=>?_) (fun I=>?_)
  · refine R0 ?_;refine aE (RT Tryz.results50 ?_);exact aF [] (.bool false) rfl (by rw[cA7 (bR3 aa (by rw[←pE];simpa using I))])
  have ae:fU x.f[i]=true:=by rw[←pE];simpa using I
  clear I;refine aG ?_;refine T0 (J _ _ _ ?_);clear J K;refine aM (by kernel_rfl) ?_;refine TQ (cW i) ?_;refine⟨⟨i+1,by omega,all_take aa U ae⟩,fF,?_⟩;show x.f.length-(i+1)<x.f.length-i;omega
 have ah:i=x.f.length:=by have:=G7 I;omega
 subst ah;rw[C6]at U;clear I;refine aV (T3 ?_);clear J K;refine AX (J _ _ _ ?_);clear J K;refine aC fun K J=>?_;refine R0 ?_;refine aJ (b:=(x.k==1)) rfl (fun I=>?_) (fun I=>?_)
 · have hk:x.k=1:=eq_of_beq I;clear I;refine AU ?_;refine aE (RT Tryz.results50 ?_);exact aF [] (.bool ((x.f.length:Int)==0)) rfl (by rw[cP,af,B1 hk,dL5,hk];rfl)
 have hk:x.k≠1:=by simpa using I
 clear I;have ag:(!(rwK x.k==[]))=inB x.k 1 5:=cO8 hk;refine aG ?_;refine T0 (J _ _ _ ?_);clear J K;by_cases ad:inB x.k 1 5=true
 · refine RS ?_;have F:=aI @A0.{0,0} (aI ag ad);refine AU ?_;refine SCF (wC x.k) ?_;refine AU ?_;refine aE (RT Tryz.results50 ?_);exact aF [] (.bool ((x.d.length:Int)==0)) rfl (by rw[cP,af,A7 hk,ad,U,dL5];rfl)
 have ab:inB x.k 1 5=false:=by simpa using ad
 refine RS ?_;have F:=aI ag ab;refine AU ?_;refine SCF (wC x.k) ?_;refine AU ?_;refine aE (RT Tryz.results50 ?_);exact aF [] (.bool false) rfl (by rw[cP,ab];rfl)
theorem dG9 (h:cP x=true):0≤x.n∧x.n≤1099511627776∧ ∀n∈x.f,0≤n∧n≤1099511627776:=by
 obtain⟨_,I⟩:=zR h;exact⟨(I _ H9).1,(I _ H9).2,fun n hn=>I n (H2 _ hn)⟩
theorem cA8 (x:Ln)(hx:LnW x)(hf:cP x=true):bM Tryz.prog 53 [x.cv] (fun v=>v= .slc ((eD x).map lsC)):=by
 obtain⟨ao,aq,aj⟩:=dG9 hf;refine FW Tryz.func53 ?_;refine R0 ?_;refine aC fun K J=>?_;refine R0 ?_;refine aJ (b:=!(x.k==1)) rfl (fun hb=>?_) (fun hb=>?_)
 ·
  have hk:x.k≠1:=by simpa using hb
  have ah:x.d=[]:=by
   unfold cP at hf;rw[A7 hk]at hf;simp at hf;exact hf.2.2
  clear hb;refine aC fun K J=>DW [(0,[],[]),(1,[],[]),(3,[],[]),(4,[],[]),(2,[],[3,4]),(5,[],[]),(6,[],[]),(7,[],[])] [0,1,3,0,8,31,63,127] ?_;iterate 4 refine W0 ?_
  refine bL (g:=none) rfl rfl fun K' I=>T5 ?_;refine C1 (wC x.k) ?_;rintro u rfl;rw[cO7 hk];refine AX (I _ _ ?_);clear I K';refine bL (g:=none) rfl rfl fun K' I=>T5 ?_;refine C1 (vJ x.n ⟨by omega,by omega⟩) ?_;rintro u rfl;refine AX (I _ _ ?_);clear I K';iterate 2 refine W0 ?_
  refine T2 (J _ _ _ ?_);clear J K;refine aC fun K J=>?_;refine R0 ?_;refine aL ?_;refine bB (α:={i:Nat//i≤x.f.length}) (fun i=>(fin [(1,.ptr 0 0),(3,.own 44 (2+i.1)),(4,.c (.int .i64 i.1))],fob [(0,.box 41 (.c x.cv)),(44,.row 9 1 ((wordK x.k::fT x.n::(x.f.take i.1).map fT).map .str))])) 2000 (fun i=>x.f.length-i.1) ⟨0,by omega⟩ (fF) ?_;rintro⟨i,hi⟩;refine aC fun K J=>?_;refine RS ?_;have F:=@A0.{0,0};refine AU ?_;refine aJ (b:=decide ((i:Int)<x.f.length)) rfl (fun hb=>?_) (fun hb=>?_)
  ·
   have U:i<x.f.length:=by have:=F9 hb;omega
   have au:=hx.fl;have aa:(x.f.take i).length=i:=by simp;omega
   have ar:=aj _ (B5 U);clear hb;refine aG ?_;refine T0 (J _ _ _ ?_);clear J K;refine aC fun K J=>?_;refine aL ?_;refine Rg ?_;have F:=aI @A1 (aI @A4 (aI U (aI (nM U) (aI @A8.{0} (aI @A0.{0,0} aa)))));refine AU ?_;refine SCF (vJ x.f[i] ⟨by omega,by omega⟩) ?_;refine AU ?_;refine T2 (J _ _ _ ?_);clear J K;refine aM (by kernel_rfl) ?_;refine TQ (cW i) ?_;have ak:min i x.f.length+1+1+1=2+(i+1):=by omega
   refine⟨⟨i+1,by omega⟩,(fG (by simp[yW U,C5,aa,ak])),?_⟩;show x.f.length-(i+1)<x.f.length-i;omega
  have ad:i=x.f.length:=by have:=G7 hb;omega
  subst ad;clear hb;refine aV (T3 ?_);clear J K;refine AX (J _ _ _ ?_);clear J K;have ae:2+x.f.length=x.f.length+1+1:=by omega
  refine bW [44] (aZ (fr2:=fin [(3,.c (lsC (firstL x)))]) (ob2:=fob []) (nx2:=3000) (bA (by omega) (by simp[denilL_str,ae,lsC,firstL]) (by simp[Ln.denil])) ?_);refine R0 ?_;refine aE (RT Tryz.results53 ?_);exact aF [3004] (.slc ((eD x).map lsC)) (by simp[eD,ah,rK]) rfl
 have hk:x.k=1:=by simpa using hb
 have ai:x.f=[]:=by
  unfold cP at hf;rw[B1 hk]at hf;simp at hf;exact hf.2
 have ab:firstL x=[oB,fT x.n]:=by unfold firstL;rw[ai,hk];rfl
 clear hb;refine aG ?_;refine T0 (J _ _ _ ?_);clear J K;refine aC fun K J=>aY (by kernel_rfl) ?_;simp only[sR,simprocAttr];iterate 2 refine SG0 ?_
 refine cE (g:=none) rfl rfl fun K' I=>T5 ?_;refine C1 (vJ x.n ⟨by omega,by omega⟩) ?_;rintro u rfl;refine AX (I _ _ ?_);clear I K';refine cN (g:=none) 32 rfl rfl fun K' I=>?_;simp only[gH,kC,sH,↓sP,sA,tyS,simprocAttr];repeat refine AI ?_
 refine cO (by first|rfl|simp) ?_;try simp only[sH,↓sP,sA,tyS,simprocAttr]
 refine AX (I _ _ ?_);clear I K';iterate 2 refine SG0 ?_
 refine T2 (J _ _ _ ?_);clear J K;refine aC fun K J=>?_;refine R0 ?_;refine aL ?_;refine bB (α:={i:Nat//i≤x.d.length}) (fun i=>(fin [(1,.ptr 0 0),(5,.own 36 (1+i.1)),(6,.c (.int .i64 i.1))],fob [(0,.box 41 (.c x.cv)),(36,.row 71 1 ((firstL x::(x.d.take i.1).map nH).map lsC))])) 5000 (fun i=>x.d.length-i.1) ⟨0,by omega⟩ (fG (by simp[ab,lsC,oB,denilL_str])) ?_;rintro⟨i,hi⟩;refine aC fun K J=>?_;refine RS ?_;have F:=@A0.{0,0};refine AU ?_;refine aJ (b:=decide ((i:Int)<x.d.length)) rfl (fun hb=>?_) (fun hb=>?_)
 ·
  have U:i<x.d.length:=by have:=F9 hb;omega
  have an:=hx.dl;have aa:(x.d.take i).length=i:=by simp;omega
  clear hb;refine aG ?_;refine T0 (J _ _ _ ?_);clear J K;refine aC fun K J=>?_;refine aL ?_;refine aY (by kernel_rfl) ?_;simp only[sR,simprocAttr];have F:=aI @A1 (aI @A4 (aI U (aI (nM U) (aI @A8.{0} (aI @A0.{0,0} aa)))));iterate 6 refine SGF ?_
  refine cE (g:=none) rfl rfl fun K' I=>T6 ?_;refine C1 (vK x.d[i]) ?_;rintro u rfl;refine AX (I _ _ ?_);clear I K';refine cN (g:=none) 5048 rfl rfl fun K' I=>?_;simp only[gH,kC,sH,↓sP,sA,tyS,simprocAttr,A1,A4,U,aW U,A8,A0,aa];repeat refine AI ?_
  refine cO (by first|rfl|simp) ?_;try simp only[sH,↓sP,sA,tyS,simprocAttr,A1,A4,U,aW U,A8,A0,aa]
  refine AX (I _ _ ?_);clear I K';iterate 3 refine SGF ?_
  refine T2 (J _ _ _ ?_);clear J K;refine aM (by kernel_rfl) ?_;refine TQ (cW i) ?_;have ag:min i x.d.length+1+1=1+(i+1):=by omega
  refine⟨⟨i+1,by omega⟩,(fG (by simp[aO6 U,C5,aa,nH,lsC,wDoc,ag])),?_⟩;show x.d.length-(i+1)<x.d.length-i;omega
 have ad:i=x.d.length:=by have:=G7 hb;omega
 subst ad;clear hb;refine aV (T3 ?_);clear J K;refine AX (J _ _ _ ?_);clear J K;refine R0 ?_;refine aE (RT Tryz.results53 ?_);have af:1+x.d.length=x.d.length+1:=by omega
 rw[C6];exact aF [36] (.slc ((eD x).map lsC)) (by simp[eD,af,rK]) rfl
theorem cP0 (d:Dv):jU d=(fU d.t&&fU d.r&&d.l.all cP):=rfl
theorem aJ4 {l:List Ln}{i:Nat}(h:i<l.length):(l.take (i+1)).all cP=((l.take i).all cP&&cP l[i]):=by
 rw[A5 h,S5];simp
theorem aP6 (d:Dv)(hd:DvW d):fH Tryz.prog 22 [d.cv] (fun u v=>u= .slc ((dvO d).map cM)∧v= .int .i64 (dvE d)):=by
 refine FW Tryz.func22 ?_;refine R0 ?_;refine aC fun K J=>?_;have key: ∀(b:Bool) fr ob nx,b=(fU d.t&&fU d.r)→Fits 0 fr ob (fin [(1,.ptr 0 0),(2,.c .nils),(3,.c (.int .i64 0)),(4,.c (.bool b))]) (fob [(0,.box 50 (.c d.cv))]) 200→K fr ob nx:=by
  rintro b fr ob nx ak hf;refine J _ _ _ (aZ hf ?_);clear hf J K;refine aC fun K J=>?_;refine R0 ?_;refine aL ?_;refine bB (α:={i:Nat//i≤d.l.length}) (fun i=>(fin [(1,.ptr 0 0),(4,.c (.bool (b&&(d.l.take i.1).all cP))),(5,.c (.int .i64 i.1))],fob [(0,.box 50 (.c d.cv))])) 500 (fun i=>d.l.length-i.1) ⟨0,by omega⟩ (fG (by simp[P5,List.all_nil,D8])) ?_;rintro⟨i,hi⟩;refine aC fun K J=>?_;refine RS ?_;have F:=@A0.{0,0};refine AU ?_;refine aJ (b:=decide ((i:Int)<d.l.length)) rfl (fun hb=>?_) (fun hb=>?_)
  ·
   have aa:i<d.l.length:=by have:=F9 hb;omega
   have ah:=(hd.l _ (B5 aa)).fl;have an:=hd.ll;clear hb;obtain⟨c,hc⟩: ∃c,c=(b&&(d.l.take i).all cP):=⟨_,rfl⟩;have ad:(b&&(d.l.take (i+1)).all cP)=(c&&cP d.l[i]):=by rw[aJ4 aa,hc,W5]
   rw[←hc];refine aG ?_;refine T0 (J _ _ _ ?_);clear J K;refine aC fun K J=>?_;refine aL ?_;by_cases ab:c=true
   · refine Rg ?_;have F:=aI ab (aI @A1 (aI @A4 (aI aa (nM aa))));refine AU ?_;refine SCF (cY6 d.l[i] ah) ?_;refine AU ?_;refine T2 (J _ _ _ ?_);clear J K;refine aM (by kernel_rfl) ?_;refine TQ (cW i) ?_;first|exact⟨⟨i+1,by omega⟩,(fG (by simp[ad,ab,B6])),(show d.l.length-(i+1)<d.l.length-i by omega)⟩|exact⟨⟨i+1,by omega⟩,(fG (by simp[ad,af,B9])),(show d.l.length-(i+1)<d.l.length-i by omega)⟩
   have af:c=false:=by simpa using ab
   refine Rg ?_;have F:=af;refine AU ?_;refine T2 (J _ _ _ ?_);clear J K;refine aM (by kernel_rfl) ?_;refine TQ (cW i) ?_;first|exact⟨⟨i+1,by omega⟩,(fG (by simp[ad,ab,B6])),(show d.l.length-(i+1)<d.l.length-i by omega)⟩|exact⟨⟨i+1,by omega⟩,(fG (by simp[ad,af,B9])),(show d.l.length-(i+1)<d.l.length-i by omega)⟩
  have ag:i=d.l.length:=by have:=G7 hb;omega
  subst ag;clear hb;rw[C6];have ao:(b&&d.l.all cP)=jU d:=by rw[ak];rfl
  rw[ao];refine aV (T3 ?_);clear J K;refine AX (J _ _ _ ?_);clear J K;refine aC fun K J=>?_;refine R0 ?_;refine aJ (b:=!jU d) rfl (fun hb=>?_) (fun hb=>?_)
  ·
   refine R0 ?_;refine aE (RT Tryz.results22 ?_);have hf:jU d=false:=by simpa using hb
   exact aO [] (.slc []) (.int .i64 1) (by simp) ⟨by rw[dvO,hf];rfl,by rw[dvE,hf];rfl⟩
  have U:jU d=true:=by simpa using hb
  have ae:d.l.all cP=true∧fU d.t=true∧fU d.r=true:=by
   rw[cP0]at U;simp only[B3]at U;exact⟨U.2,U.1.1,U.1.2⟩
  have ht:=(eX _).1 ae.2.1;have hr:=(eX _).1 ae.2.2;clear hb;refine aG ?_;refine T0 (J _ _ _ ?_);clear J K;refine aZ (fr2:=fin [(1,.ptr 0 0)]) (ob2:=fob [(0,.box 50 (.c d.cv))]) (nx2:=1000) (fF) ?_;refine aC fun K J=>dT mixed [(0,[],[]),(1,[],[]),(2,[],[]),(3,[],[]),(4,[],[]),(5,[],[]),(6,[],[]),(7,[],[]),(8,[],[]),(10,[],[]),(11,[],[]),(13,[],[]),(14,[],[]),(16,[],[]),(17,[],[]),(20,[],[]),(21,[],[]),(22,[],[]),(24,[],[]),(25,[],[]),(26,[],[]),(27,[],[]),(28,[],[]),(29,[],[]),(9,[],[0,1,2,3,4,5,10,11,13,14,16,17,20,21,22,24,25,26,27,28,29]),(12,[],[0,1,2,3,4,5,13,14,16,17,20,21,22,24,25,26,27,28,29]),(15,[],[0,1,2,3,4,5,16,17,20,21,22,24,25,26,27,28,29]),(18,[],[0,1,2,3,4,5,20,21,22,24,25,26,27,28,29]),(19,[],[]),(23,[19],[0,1,2,3,4,5,24,25,26,27,28,29,19]),(30,[19],[]),(31,[],[]),(32,[],[])] [0,1,3,0,8,24,0,64,192,448,0,1024,4032,0,8192,32704,0,65536,262080,524287,0,1048576,3145728,7864256,0,16777216,50331648,0,134217728,402653184,1073217472,2147483647,4294967295] (by kernel_rfl) (by kernel_rfl) (by kernel_rfl) (by kernel_rfl) rfl (by kernel_rfl) ?_;have F:=aI @sI (aI @sJ (aI @sK (aI @sL (aI @sM @sO))));iterate 24 refine WGF ?_
  refine cT (g:=none) rfl rfl fun K' I=>T6 ?_;refine C1 (vK d.q.a) ?_;rintro u rfl;refine AX (I _ _ ?_);clear I K';refine cT (g:=none) rfl rfl fun K' I=>T6 ?_;refine C1 (vJ d.t ⟨by omega,by omega⟩) ?_;rintro u rfl;refine AX (I _ _ ?_);clear I K';refine cT (g:=none) rfl rfl fun K' I=>T6 ?_;refine C1 (vK d.p) ?_;rintro u rfl;refine AX (I _ _ ?_);clear I K';refine cT (g:=none) rfl rfl fun K' I=>T6 ?_;refine C1 (vJ d.r ⟨by omega,by omega⟩) ?_;rintro u rfl;refine AX (I _ _ ?_);clear I K';refine jA (g:=none) 1076 rfl rfl fun K' I=>?_;simp only[gH,kC,sH,↓sP,sA,tyS,simprocAttr,sI,sJ,sK,sL,sM,sO];repeat refine AI ?_
  refine cO (by first|rfl|simp) ?_;try simp only[sH,↓sP,sA,tyS,simprocAttr,sI,sJ,sK,sL,sM,sO]
  refine AX (I _ _ ?_);clear I K';refine cT (g:=none) rfl rfl fun K' I=>T6 ?_;refine C1 (vK d.o.v) ?_;rintro u rfl;refine AX (I _ _ ?_);clear I K';refine jA (g:=none) 1120 rfl rfl fun K' I=>?_;simp only[gH,kC,sH,↓sP,sA,tyS,simprocAttr,sI,sJ,sK,sL,sM,sO];repeat refine AI ?_
  refine cO (by first|rfl|simp) ?_;try simp only[sH,↓sP,sA,tyS,simprocAttr,sI,sJ,sK,sL,sM,sO]
  refine AX (I _ _ ?_);clear I K';iterate 2 refine WGF ?_
  refine T2 (J _ _ _ ?_);clear J K;refine aC fun K J=>?_;refine R0 ?_;refine aL ?_;refine bB (α:={i:Nat//i≤d.l.length}) (fun i=>(fin [(1,.ptr 0 0),(6,.own 1124 (dvT d i.1).length),(7,.c (.int .i64 i.1))],fob [(0,.box 50 (.c d.cv)),(1124,.row 71 1 ((dvT d i.1).map lsC))])) 3000 (fun i=>d.l.length-i.1) ⟨0,by omega⟩ (fG (by simp[dvT,lA,lsC,wDer,wOrg])) ?_;rintro⟨i,hi⟩;refine aC fun K J=>?_;refine RS ?_;have F:=@A0.{0,0};refine AU ?_;refine aJ (b:=decide ((i:Int)<d.l.length)) rfl (fun hb=>?_) (fun hb=>?_)
  ·
   have aa:i<d.l.length:=by have:=F9 hb;omega
   have an:=hd.ll;have hle:=cL3 d (i+1);have hlen:=hd.len;rw[vR aa,A3]at hle;have ah:cP d.l[i]=true:=G5.1 ae.1 _ (B5 aa);have aj:(∀v∈(eD d.l[i]).map lsC,v.cells=1)=True:=FN fun v hv=>by
    obtain⟨y,_,rfl⟩:=H0.1 hv;rfl
   clear hb;refine aG ?_;refine T0 (J _ _ _ ?_);clear J K;refine aC fun K J=>?_;refine aL ?_;refine Rg ?_;have F:=aI @A1 (aI @A4 (aI aa (aI (nM aa) (aI @A0.{0,0} aj))));refine AU ?_;refine SCF (cA8 d.l[i] (hd.l _ (B5 aa)) ah) ?_;refine AU ?_;refine T2 (J _ _ _ ?_);clear J K;refine aM (by kernel_rfl) ?_;refine TQ (cW i) ?_;refine⟨⟨i+1,by omega⟩,(fG (by simp[vR aa,C5,A3])),?_⟩;show d.l.length-(i+1)<d.l.length-i;omega
  have ag:i=d.l.length:=by have:=G7 hb;omega
  subst ag;clear hb;rw[bR4];have hlen:=hd.len;refine aV (T3 ?_);clear J K;refine AX (J _ _ _ ?_);clear J K;refine bW [1124] (aZ (fr2:=fin [(6,.c (.slc ((fV d).map lsC)))]) (ob2:=fob []) (nx2:=4000) (bA (by omega) (by simp[cK]) (by simp)) ?_);refine aC fun K J=>Rg ?_;have F:=@cK;refine SF ?_;refine HS rfl rfl fun K' I=>T6 ?_;refine D1 (bS8 (fV d) (by omega) (cL2 hd)) ?_;rintro u v ⟨rfl,rfl⟩;refine AX (I _ _ ?_);clear I K';refine AU ?_;refine T2 (J _ _ _ ?_);clear J K;refine aE (RT Tryz.results22 ?_);exact aO [] (.slc ((jZ (fV d)).map cM)) (.int .i64 (jN (fV d))) (by simp[bT]) ⟨by rw[dvO,B1 U],by rw[dvE,B1 U]⟩
 by_cases h0:fU d.t=true
 · refine Rg ?_;have F:=aI @pE h0;refine AU ?_;refine SCF (kR d.t) ?_;refine AU ?_;refine SCF (kR d.r) ?_;refine AU ?_;refine T4 ?_;exact key (fU d.r) _ _ _ (by rw[h0];rfl) (fG (by simp[pE]))
 have ai:fU d.t=false:=by simpa using h0
 refine Rg ?_;have F:=aI @pE ai;refine AU ?_;refine SCF (kR d.t) ?_;refine AU ?_;refine T4 ?_;exact key false _ _ _ (by rw[ai];rfl) (fF)
structure DvT (d:Dv):Prop where
 t:I64 d.t
 r:I64 d.r
 l: ∀x∈d.l,I64 x.k∧I64 x.n∧ ∀n∈x.f,I64 n
 ll:d.l.length<2^63
theorem yY {α:Type}{f:α→CV}{Q:α→Prop}: ∀(l:List CV),(∀x∈l,∃y,x=f y∧Q y)→ ∃m:List α,l=m.map f∧ ∀y∈m,Q y
 |[],_=>⟨[],rfl,by simp⟩
 |x::l,h=>by
  obtain⟨y,rfl,J⟩:=h x (by simp);obtain⟨m,rfl,hm⟩:=yY l (fun x hx=>h x (by simp[hx]));exact⟨y::m,rfl,fun z I=>by rcases E0.1 I with rfl|I;exact J;exact hm z I⟩
theorem dO4 {n:Int}(h:(Lit.int .i64 n).wf=true):I64 n:=by
 simpa[Lit.wf,IntKind.min,IntKind.max,IntKind.signed,IntKind.bits]using h
theorem cY7 {c:CV}(h:HasTy Tryz.prog 22 c): ∃L:List Int,c= .slc (L.map (.int .i64))∧(∀n∈L,I64 n)∧L.length≤maxLen:=by
 obtain⟨l,rfl,hl,hn⟩:=h.of_slc Tryz.underlying22;obtain⟨m,rfl,hm⟩:=yY (f:=CV.int .i64) (Q:=I64) l (fun x hx=>by obtain⟨n,rfl,hw⟩:=(hl x hx).of_int Tryz.underlying3;exact⟨n,rfl,dO4 hw⟩);exact⟨m,rfl,hm,by simpa using hn⟩
theorem own :ownKnob Tryz.prog.godebug=none:=by kernel_rfl
theorem dL6 :Kids Tryz.prog (· <Tryz.prog.types.size):=kids_rows (by kernel_rfl) (by kernel_rfl)
theorem bM3 : ∀t e,t<Tryz.prog.types.size→Tryz.prog.underlying t=some (.slice e)→0<Tryz.prog.cellsOf e:=slices_full_of Tryz.prog (by kernel_rfl)
theorem cA9 (l:List UInt8)(c:UInt8):bM Tryz.prog 157 [.str l,u8 c] (fun v=>v= .int .i64 (Lib.countByte l c:Nat)):=
 xB (f:=157) (fn:=Tryz.f157) (e:=Extern.BytealgCount.count) Tryz.func157 (by kernel_rfl) (by kernel_rfl) (by kernel_rfl) (by kernel_rfl) fun w ρ O xs h=>by
  simp only[B8,F2,bJ,RepHV]at h;obtain⟨x,l1,rfl,hx,y,l2,rfl,U,rfl⟩:=h;have I:=RepV.single hx rfl;have J:=RepV.single U rfl;simp only[u8,RepC,F8,J9]at I J;subst I J;refine⟨_,_,rfl,eU _ _ _ _ _,?_⟩;have:=Lib.run_countString (P:=Tryz.prog) ⟨l.toArray⟩ (c.toNat:Int) w;simpa using this
theorem bM4 (l:List UInt8)(c:UInt8):bM Tryz.prog 158 [.str l,.str [c]] (fun v=>v= .int .i64 (gE l c)):=by
 refine FW Tryz.func158 ?_;refine R0 ?_;refine R0 ?_;refine aC fun K U=>?_;refine aL ?_;refine aC fun K U=>Rg ?_;iterate 3 refine S0 ?_
 refine aH 18 rfl (fun I=>?_) (fun I=>?_)
 ·
  have F:=I;iterate 5 refine SF ?_
  refine T2 (U _ _ _ ?_);clear U K;refine CT rfl ?_;refine R0 ?_;refine aE (RT Tryz.results158 ?_);exact absurd I (by decide)
 have F:=I;iterate 5 refine SF ?_
 refine aH 22 rfl (fun J=>?_) (fun J=>?_)
 · simp only[J];refine T2 (U _ _ _ ?_);clear U K;refine CT rfl ?_;refine R0 ?_;refine aE (RT Tryz.results158 ?_);have hl:l=[c]:=(eq_of_beq J).symm;subst hl;exact aF [] (.int .i64 0) rfl (by simp[gE])
 simp only[J];refine T2 (U _ _ _ ?_);clear U K;refine CF rfl ?_;refine R0 ?_;refine aJ (b:=(1:Int)==1) rfl (fun hb=>?_) (fun hb=>?_)
 ·
  refine aC fun K U=>Rg ?_;have F:=aI @M9.{0} (aI I J);iterate 3 refine SF ?_
  refine HS rfl rfl fun K' aa=>T6 ?_;refine C2 (cK6 l c) ?_;rintro u rfl;refine AX (aa _ _ ?_);clear aa K';refine SF ?_;refine T2 (U _ _ _ ?_);clear U K;refine aE (RT Tryz.results158 ?_);exact aF [] (.int .i64 (gE l c)) rfl rfl
 exact absurd hb (by decide)
theorem bF1 (l:List UInt8)(c:UInt8):bM Tryz.prog 132 [.str l,.str [c]] (fun v=>v= .int .i64 (gE l c)):=by
 refine FW Tryz.func132 ?_;refine AU ?_;refine SC (bM4 l c) ?_;refine AU ?_;refine aE (RT Tryz.results132 ?_);exact aF [] (.int .i64 (gE l c)) rfl rfl
theorem bF2 (l:List UInt8)(c:UInt8):bM Tryz.prog 131 [.str l,.str [c]] (fun v=>v= .int .i64 (Lib.countByte l c:Nat)):=by
 refine FW Tryz.func131 ?_;refine R0 ?_;refine aC fun K J=>?_;refine R0 ?_;refine aJ (b:=(1:Int)==0) rfl (fun I=>?_) (fun I=>?_)
 · exact absurd I (by decide)
 refine aG ?_;refine T0 (J _ _ _ ?_);clear J K;refine aC fun K J=>?_;refine R0 ?_;refine aJ (b:=(1:Int)==1) rfl (fun I=>?_) (fun I=>?_)
 · refine RS ?_;have F:=@M9.{0};refine AU ?_;refine SCF (cA9 l c) ?_;refine AU ?_;refine aE (RT Tryz.results131 ?_);exact aF [] (.int .i64 _) rfl rfl
 exact absurd I (by decide)
theorem bF3 (l:List UInt8)(c:UInt8)(hl:l.length<2^40):bM Tryz.prog 100 [.str l,.str [c],.int .i64 0,.int .i64 (-1)] (fun v=>v= .slc ((aQ c l).map .str)):=by
 refine FW Tryz.func100 ?_;refine R0 ?_;refine aC fun K I=>?_;refine R0 ?_;refine aJ (b:=(-1:Int)==0) rfl (fun J=>?_) (fun J=>?_)
 · exact absurd J (by decide)
 refine aG ?_;refine T0 (I _ _ _ ?_);clear I K;refine aC fun K I=>?_;refine R0 ?_;refine aJ (b:=[c]==[]) rfl (fun J=>?_) (fun J=>?_)
 · exact absurd J (by simp)
 refine aG ?_;refine T0 (I _ _ _ ?_);clear I K;refine aC fun K I=>?_;refine R0 ?_;refine aJ (b:=decide ((-1:Int)<0)) rfl (fun J=>?_) (fun J=>?_)
 ·
  obtain⟨n,hn⟩: ∃n,n=(aQ c l).length:=⟨_,rfl⟩;have ab:=vB c l;have hlen:=dN c l;rw[←hn]at ab hlen;have ax:IntKind.i64.wrap ((Lib.countByte l c:Nat)+1:Int)=(n:Int):=by rw[B0 _ (by omega)];omega
  refine Rg ?_;have F:=ax;iterate 2 refine SF ?_
  refine HS rfl rfl fun K' aa=>T6 ?_;refine C2 (bF2 l c) ?_;rintro u rfl;refine AX (aa _ _ ?_);clear aa K';iterate 2 refine SF ?_
  refine T2 (I _ _ _ ?_);clear I K;have bb:IntKind.i64.wrap ((l.length:Int)+1)=((l.length+1:Nat):Int):=by rw[B0 _ (by omega)];omega
  have aj:(if((l.length+1:Nat):Int)<(n:Int)then((l.length+1:Nat):Int)else(n:Int))=(n:Int):=by rw[A7 (by omega)]
  refine aC fun K I=>Rg ?_;have F:=aI bb aj;iterate 6 refine SF ?_
  refine T2 (I _ _ _ ?_);clear I K;have au:((n:Int)=0)=False:=by simp;omega
  have an:(List.replicate n (CV.str []))=(List.replicate n ([]:aK)).map .str:=by simp
  have F:=aI au (aI an @A6);refine RF ?_;have bf:IntKind.i64.wrap ((n:Int)-1)=((n-1:Nat):Int):=by rw[B0 _ (by omega)];omega
  have F:=bf;refine RF ?_;refine R0 ?_;refine aC fun K I=>?_;refine aL ?_;have bc:1≤n:=by rw[hn];exact J8.2 (dI c l)
  refine bB (α:={y:Nat×aK×List aK//SplSt l c y.1 y.2.1 y.2.2}) (fun y=>(fin [(0,.c (.str y.1.2.1)),(1,.c (.str [c])),(2,.c (.int .i64 0)),(3,.c (.int .i64 (n-1:Nat))),(9,.own 76 n),(10,.c (.int .i64 y.1.1))],fob [(76,.row 9 1 (y.1.2.2.map .str))])) 100 (fun y=>y.1.2.1.length) ⟨(0,l,List.replicate n []),by rw[hn];exact SplSt.init l c⟩ (fF) ?_;rintro⟨⟨i,rest,a⟩,U⟩;simp only at U;have ag:i<n:=by rw[hn];exact U.2.2.2.1
  have ad:a.length=n:=by rw[hn];exact U.1
  have aw:i<a.length:=by omega
  have ai:nth (a.map CV.str) i= .str a[i]:=aW aw;have bg:=U.2.2.2.2;refine aC fun K I=>?_;refine R0 ?_;refine aJ (b:=decide ((i:Int)<((n-1:Nat):Int))) rfl (fun J=>?_) (fun J=>?_)
  ·
   have az:i+1<n:=by simp at J;omega
   clear J;refine aG ?_;refine T0 (I _ _ _ ?_);clear I K;refine aL ?_;refine aC fun K I=>Rg ?_;iterate 2 refine S0 ?_
   refine HS rfl rfl fun K' aa=>T5 ?_;refine C2 (bF1 rest c) ?_;rintro u rfl;refine AX (aa _ _ ?_);clear aa K';refine S0 ?_;refine T2 (I _ _ _ ?_);clear I K;refine aC fun K I=>?_;refine R0 ?_;refine aJ (b:=decide (gE rest c<0)) rfl (fun J=>?_) (fun J=>?_)
   · have:=U.last (by simpa using J);omega
   obtain⟨k,hk,ah,_⟩:=jT (l:=rest) (c:=c) (by simpa using J);obtain⟨_,ay⟩:=U.next hk;rw[hk];have ak:k+1≤rest.length:=ah;have ar:IntKind.i64.wrap ((k:Int)+0)=(k:Int):=by rw[B0 _ (by omega)];omega
   have ba:IntKind.i64.wrap ((k:Int)+1)=((k+1:Nat):Int):=by rw[B0 _ (by omega)];rfl
   have ae:IntKind.i64.wrap ((i:Int)+1)=((i+1:Nat):Int):=by rw[B0 _ (by omega)];rfl
   have bd:List.take (rest.length-(k+1)) (List.drop (k+1) rest)=List.drop (k+1) rest:=C8 (by simp);refine aG ?_;refine T0 (I _ _ _ ?_);clear I K;refine aC fun K I=>Rg ?_;iterate 9 refine S0 ?_ (e:=fun _ h_=>by simp only[sH,↓sP,sA,tyS,simprocAttr,A1,H1,A4,S3 ah,ar,H6,G2,A0,ad,ag,ai];exact AX h_)
   refine T2 (I _ _ _ ?_);clear I K;refine aC fun K I=>Rg ?_;have F:=aI @A1 (aI @H1 (aI ak (aI ba bd)));iterate 7 refine SF ?_
   refine T2 (I _ _ _ ?_);clear I K;refine aM (by kernel_rfl) ?_;refine TQ ae ?_;refine⟨⟨(i+1,rest.drop (k+1),a.set i (rest.take k)),ay⟩,bA (by omega) ?_ ?_,?_⟩
   · simp
   · simp only[jQ,R8];exact⟨rfl,by omega,trivial,trivial⟩
   show(rest.drop (k+1)).length<rest.length;simp;omega
  refine aV (T3 ?_);clear I K;refine AX (I _ _ _ ?_);clear I K;have az:i+1=n:=by simp at J;omega
  have af:=U.fin (by omega);have ae:IntKind.i64.wrap ((i:Int)+1)=(n:Int):=by rw[B0 _ (by omega)];omega
  refine aC fun K I=>Rg ?_;have F:=aI @A1 (aI @A4 (aI @A0.{0,0} (aI ad (aI ag ai))));iterate 5 refine SF ?_
  refine T2 (I _ _ _ ?_);clear I K;refine aC fun K I=>Rg ?_;have F:=aI @A1 (aI ae (aI @A0.{0,0} (aI @M5.{0} (aI ad @BD))));iterate 5 refine SF ?_
  refine T2 (I _ _ _ ?_);clear I K;refine aE (RT Tryz.results100 ?_);refine aF [76] (.slc ((aQ c l).map .str)) ?_ rfl;have aq:(a.map CV.str).set i (CV.str rest)=(aQ c l).map .str:=by rw[←List.map_set,af]
  have ht:List.take n ((aQ c l).map CV.str)=(aQ c l).map .str:=C8 (by simp[hn]);rw[aq];have ao:0<n:=bc;simp[←hn,denilL_str,ht,ao]
 exact absurd J (by decide)
theorem qR (l:List UInt8)(c:UInt8)(hl:l.length<2^40):bM Tryz.prog 70 [.str l,.str [c]] (fun v=>v= .slc ((aQ c l).map .str)):=by
 refine FW Tryz.func70 ?_;refine AU ?_;refine SC (bF3 l c hl) ?_;refine AU ?_;refine aE (RT Tryz.results70 ?_);exact aF [] (.slc ((aQ c l).map .str)) (by simp[denilL_str]) rfl
theorem aV6 (s:aK)(hl:s.length<2^40):fH Tryz.prog 71 [.str s] (fun u v=>u= .str ((unW s).getD [])∧v= .bool (unW s).isSome):=by
 refine FW Tryz.func71 ?_;refine R0 ?_;refine aC fun K U=>?_;refine R0 ?_;refine aJ (b:=s==[126]) rfl (fun hb=>?_) (fun hb=>?_)
 ·
  refine R0 ?_;refine aE (RT Tryz.results71 ?_);have hs:s=[126]:=by simpa using hb
  subst hs;exact aO [] (.str []) (.bool true) rfl ⟨rfl,rfl⟩
 refine aG ?_;refine T0 (U _ _ _ ?_);clear U K;refine aC fun K U=>?_;have ag:s≠[126]:=by simpa using hb
 clear hb;refine R0 ?_;refine aJ (b:=s==[]) rfl (fun hb=>?_) (fun hb=>?_)
 ·
  refine R0 ?_;refine aE (RT Tryz.results71 ?_);have hs:s=[]:=by simpa using hb
  subst hs;exact aO [] (.str []) (.bool false) rfl ⟨rfl,rfl⟩
 refine aG ?_;refine T0 (U _ _ _ ?_);clear U K;have an:s≠[]:=by simpa using hb
 clear hb;refine R0 ?_;refine aC fun K U=>?_;refine R0 ?_;refine aL ?_;refine eH 4 0 5 1 rfl rfl rfl rfl ?_;refine bB (α:={y:Nat×aK//UnSt s y.1 y.2}) (fun y=>(fin [(0,.c (.str s)),(4,.own 32 y.1.2.length),(5,.c (.int .i64 y.1.1))],fob [(32,.row 5 1 (y.1.2.map cM))])) 100 (fun y=>s.length-y.1.1) ⟨(0,[]),UnSt.init s⟩ (fF) ?_;rintro⟨⟨i,out⟩,aa⟩;simp only at aa;have hi:=aa.1;have ho:=aa.2.2.2;refine aC fun K U=>?_;refine AU ?_;refine aJ (b:=decide ((i:Int)<s.length)) rfl (fun hb=>?_) (fun hb=>?_)
 ·
  have ab:i<s.length:=by simpa using hb
  clear hb;have hgd:s.getD i 0=s[i]:=by simp[ab]
  refine aG ?_;refine T0 (U _ _ _ ?_);clear U K;refine aC fun K U=>?_;refine aL ?_;refine aC fun K U=>?_;refine aC fun K U=>Rg ?_;iterate 3 refine S0 ?_ (e:=fun _ h_=>by simp only[sH,↓sP,sA,tyS,simprocAttr,A1,A4,ab,hgd];exact AX h_)
  refine HS rfl rfl fun K' ad=>?_;simp only[sH,↓sP,sA,tyS,simprocAttr,A1,A4,ab,hgd];refine C1 (xM s[i]) ?_;rintro u rfl;refine AX (ad _ _ ?_);clear ad K';refine T2 (U _ _ _ ?_);clear U K;refine aJ (b:=cX s[i]) rfl (fun hb=>?_) (fun hb=>?_)
  ·
   refine RS ?_;iterate 7 refine S0 ?_ (e:=fun _ h_=>by simp only[sH,↓sP,sA,tyS,simprocAttr,A1,A4,ab,hgd,A3,A0];exact AX h_)
   refine RE ?_;refine aV (T3 ?_);clear U K;refine AX (U _ _ _ ?_);clear U K;refine aM (by kernel_rfl) ?_;refine TQ (cW i) ?_;refine⟨⟨(i+1,out++[s[i]]),aa.plain ab hb⟩,bA (by omega) ?_ ?_,?_⟩
   · simp
   · simp only[jQ,C5];exact⟨rfl,by omega,trivial,trivial⟩
   show s.length-(i+1)<s.length-i;omega
  refine aG ?_;refine T0 (U _ _ _ ?_);clear U K;refine aC fun K U=>?_;have hp:cX s[i]=false:=hb;clear hb;have az:IntKind.i64.wrap ((i:Int)+1)=((i+1:Nat):Int):=by rw[B0 _ (by omega)];rfl
  have aq:IntKind.i64.wrap ((i:Int)+2)=((i+2:Nat):Int):=by rw[B0 _ (by omega)];rfl
  have au:IntKind.i64.wrap (((i+2:Nat):Int)+1)=((i+3:Nat):Int):=by rw[B0 _ (by omega)];rfl
  have ak:IntKind.i64.wrap ((s.length:Int)-(i:Int))=((s.length-i:Nat):Int):=by rw[B0 _ (by omega)];omega
  refine RS ?_;iterate 5 refine S0 ?_ (e:=fun _ h_=>by simp only[sH,↓sP,sA,tyS,simprocAttr,A1,A4,ab,hgd,ak];exact AX h_)
  refine aH 31 rfl (fun I=>?_) (fun I=>?_)
  ·
   iterate 6 refine S0 ?_ (e:=fun _ h_=>by simp only[sH,↓sP,sA,tyS,simprocAttr,A1,A4,ab,hgd,ak,I];exact AX h_)
   refine RE ?_;refine CT rfl ?_;refine R0 ?_;refine aE (RT Tryz.results71 ?_);have af:s[i]≠37:=by rintro h;rw[h]at I;simp at I
   have hn:=jE (aa.bad1 ab hp (.inl af)) ag;exact aO [] (.str []) (.bool false) rfl ⟨by rw[hn];rfl,by rw[hn];rfl⟩
  iterate 6 refine S0 ?_ (e:=fun _ h_=>by simp only[sH,↓sP,sA,tyS,simprocAttr,A1,A4,ab,hgd,ak,I];exact AX h_)
  refine aH 37 rfl (fun J=>?_) (fun J=>?_)
  ·
   simp only[J];refine RE ?_;refine CT rfl ?_;refine R0 ?_;refine aE (RT Tryz.results71 ?_);have ae:s.length≤i+2:=by simp at J;omega
   have hn:=jE (aa.bad1 ab hp (.inr ae)) ag;exact aO [] (.str []) (.bool false) rfl ⟨by rw[hn];rfl,by rw[hn];rfl⟩
  simp only[J];refine RE ?_;refine CF rfl ?_;refine aG ?_;refine T0 (U _ _ _ ?_);clear U K;have af:s[i]=37:=by
   simp only[U8]at I;exact P7.1 (by show s[i].toNat=37;omega)
  have ae:i+2<s.length:=by simp at J;omega
  have ao:i+1<s.length:=by omega
  have aw:s.getD (i+1) 0=s[i+1]:=by simp[ao]
  have ay:s.getD (i+2) 0=s[i+2]:=by simp[ae]
  refine aC fun K U=>DW [(0,[],[]),(1,[],[]),(2,[],[]),(3,[],[]),(5,[],[]),(6,[],[]),(7,[],[]),(8,[],[]),(4,[],[5,6,7,8]),(9,[],[]),(10,[],[]),(11,[],[])] [0,0,2,7,15,0,0,64,224,511,1023,2047] ?_;have F:=aI @A1 (aI @A4 (aI az (aI aq (aI aw (aI ay (aI ao (aI ae (aI I J))))))));iterate 8 refine WF ?_
  refine bL (g:=none) rfl rfl fun K' ad=>T6 ?_;refine C1 (bC4 s[i+1]) ?_;rintro u rfl;refine AX (ad _ _ ?_);clear ad K';refine bL (g:=none) rfl rfl fun K' ad=>T6 ?_;refine C1 (bC4 s[i+2]) ?_;rintro u rfl;refine AX (ad _ _ ?_);clear ad K';iterate 2 refine WF ?_
  refine T2 (U _ _ _ ?_);clear U K;refine aC fun K U=>?_;by_cases hx:valH s[i+1]<16
  ·
   by_cases hy:valH s[i+2]<16
   ·
    have ai:(((valH s[i+1]:Nat):Int)==16)=false:=by rw[J2];omega
    have aj:(((valH s[i+2]:Nat):Int)==16)=false:=by rw[J2];omega
    have e1:IntKind.i64.wrap (16*((valH s[i+1]:Nat):Int))=((16*valH s[i+1]:Nat):Int):=by rw[B0 _ (by omega)];omega
    have e2:IntKind.i64.wrap (((16*valH s[i+1]:Nat):Int)+((valH s[i+2]:Nat):Int))=((16*valH s[i+1]+valH s[i+2]:Nat):Int):=by rw[B0 _ (by omega)];omega
    have e3:IntKind.u8.wrap ((16*valH s[i+1]+valH s[i+2]:Nat):Int)=((byteH s[i+1] s[i+2]).toNat:Int):=by rw[K7 _ (by omega),xD hx hy]
    refine RS ?_;have F:=aI ai (aI aj (aI e1 (aI e2 (aI e3 (aI I J)))));refine AU ?_;refine SCF (xM (byteH s[i+1] s[i+2])) ?_;refine AU ?_;refine aJ (b:=cX (byteH s[i+1] s[i+2])) rfl (fun hb=>?_) (fun hb=>?_)
    · refine R0 ?_;refine aE (RT Tryz.results71 ?_);have hn:=jE (aa.bad2 ae af (by simp[okH,hx,hy,hb])) ag;exact aO [] (.str []) (.bool false) rfl ⟨by rw[hn];rfl,by rw[hn];rfl⟩
    refine aG ?_;refine T0 (U _ _ _ ?_);clear U K;refine RS ?_;have F:=aI @A1 (aI @A3.{0} (aI @A0.{0,0} (aI e1 (aI e2 (aI e3 (aI I J))))));refine AU ?_;refine aM (by kernel_rfl) ?_;refine TQ aq ?_;refine AX (U _ _ _ ?_);clear U K;refine aM (by kernel_rfl) ?_;refine TQ au ?_;refine⟨⟨(i+3,out++[byteH s[i+1] s[i+2]]),aa.esc ae af (by simp[okH,hx,hy,hb])⟩,bA (by omega) ?_ ?_,?_⟩
    · simp
    · simp only[jQ,C5];exact⟨rfl,by omega,trivial,trivial⟩
    show s.length-(i+3)<s.length-i;omega
   have ai:(((valH s[i+1]:Nat):Int)==16)=false:=by rw[J2];omega
   have aj:(((valH s[i+2]:Nat):Int)==16)=true:=by have:=bP5 s[i+2];rw[I6];omega
   refine RS ?_;have F:=aI ai (aI aj (aI I J));refine AU ?_;refine CT rfl ?_;refine R0 ?_;refine aE (RT Tryz.results71 ?_);have hn:=jE (aa.bad2 ae af (by simp[okH,hx,hy])) ag;exact aO [] (.str []) (.bool false) rfl ⟨by rw[hn];rfl,by rw[hn];rfl⟩
  have ai:(((valH s[i+1]:Nat):Int)==16)=true:=by have:=bP5 s[i+1];rw[I6];omega
  refine RS ?_;have F:=aI ai (aI I J);refine AU ?_;refine CT rfl ?_;refine R0 ?_;refine aE (RT Tryz.results71 ?_);have hn:=jE (aa.bad2 ae af (by simp[okH,hx])) ag;exact aO [] (.str []) (.bool false) rfl ⟨by rw[hn];rfl,by rw[hn];rfl⟩
 refine aV (T3 ?_);clear U K;refine AX (U _ _ _ ?_);clear U K;have ax:i=s.length:=by simp at hb;omega
 have ah:=aa.fin ax ag;have ar:out≠[]:=fun h=>an (D3 (by have:=aa.2.2.1 h;omega));rw[A7 ar]at ah;refine bW [32] (aZ (fr2:=fin [(4,.c (.slc (out.map cM)))]) (ob2:=fob []) (nx2:=200) (bA (by omega) (by simp[bT]) (by simp)) ?_);refine RS ?_;have F:=aI @bytesC_map @A0.{0,0};refine AU ?_;refine aE (RT Tryz.results71 ?_);exact aO [] (.str out) (.bool true) rfl ⟨by rw[ah];rfl,by rw[ah];rfl⟩
end Go.Proofs.YthedbjfipmkpiaaGreatDoor
