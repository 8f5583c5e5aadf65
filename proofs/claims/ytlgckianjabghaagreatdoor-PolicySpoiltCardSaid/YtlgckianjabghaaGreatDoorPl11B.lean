/- A valid root document is found again in its encoded form (11.2), in plain Lean. By an AI agent. -/
import Derived.Lib.ItoaLen
import Derived.Test.YtlgckianjabghaaGreatDoorHpU2
set_option maxRecDepth 10000
set_option maxHeartbeats 16000000
set_option linter.unusedSimpArgs false
set_option linter.unusedVariables false
set_option linter.defProp false
namespace Go.Proofs.YtlgckianjabghaaGreatDoor
open Go Go.Hl Go.Pl
theorem cJ4 (v:CV):nth [v] 0=v:=rfl
theorem yX (c:UInt8):(u8 c).denil=u8 c:=rfl
theorem denilL_u8 : ∀bs:List UInt8,CV.denilL (bs.map u8)=bs.map u8
 |[]=>rfl
 |b::bs=>by simp only[D0,CV.denilL,denilL_u8 bs];rfl
theorem cJ5 (l:List UInt8)(c:UInt8):cG Tryz.prog 113 [.slc (l.map u8),u8 c] (fun v=>v= .int .i64 (eD l c)):=
 cS6 (f:=113) (fn:=Tryz.f113) Tryz.func113 (by kernel_rfl) (by kernel_rfl) (by kernel_rfl) (by kernel_rfl) l c
theorem bX9 (l:List UInt8)(c:UInt8):cG Tryz.prog 116 [.str l,u8 c] (fun v=>v= .int .i64 (eD l c)):=
 cI8 (f:=116) (fn:=Tryz.f116) Tryz.func116 (by kernel_rfl) (by kernel_rfl) (by kernel_rfl) (by kernel_rfl) l c
theorem cS9 (l:List UInt8)(c:UInt8):cG Tryz.prog 95 [.slc (l.map u8),u8 c] (fun v=>v= .int .i64 (eD l c)):=by
 refine FW Tryz.func95 ?_;have F:=rI;refine RF ?_;refine RS ?_;have F:=aI rI (aI @denilL_u8 @yX);refine AU ?_;refine SCF (cJ5 l c) ?_;refine AU ?_;refine aE ?_;simp only[gI,Tryz.results95,fV,gH,fJ,↓sP,sA,tyS,simprocAttr,rI];exact aK [] (.int .i64 (eD l c)) rfl rfl
theorem bY0 (l:List UInt8)(c:UInt8):cG Tryz.prog 101 [.str l,u8 c] (fun v=>v= .int .i64 (eD l c)):=by
 refine FW Tryz.func101 ?_;have F:=rI;refine RF ?_;refine RS ?_;have F:=aI rI (aI @denilL_u8 @yX);refine AU ?_;refine SCF (bX9 l c) ?_;refine AU ?_;refine aE ?_;simp only[gI,Tryz.results101,fV,gH,fJ,↓sP,sA,tyS,simprocAttr,rI];exact aK [] (.int .i64 (eD l c)) rfl rfl
theorem tI (l:List UInt8)(c:UInt8):cG Tryz.prog 76 [.str l,u8 c] (fun v=>v= .int .i64 (eD l c)):=by
 refine FW Tryz.func76 ?_;have F:=rI;refine RF ?_;refine RS ?_;have F:=aI rI (aI @denilL_u8 @yX);refine AU ?_;refine SCF (bY0 l c) ?_;refine AU ?_;refine aE ?_;simp only[gI,Tryz.results76,fV,gH,fJ,↓sP,sA,tyS,simprocAttr,rI];exact aK [] (.int .i64 (eD l c)) rfl rfl
theorem aF1 (l:List UInt8)(c:UInt8):cG Tryz.prog 73 [.slc (l.map u8),.slc [u8 c]] (fun v=>v= .int .i64 (eD l c)):=by
 refine FW Tryz.func73 ?_;have F:=rI;refine RF ?_;refine RF ?_;refine aC fun K hK=>?_;refine aM ?_;refine RF ?_;refine aF (b:=(1:Int)==0) rfl (fun hb=>?_) (fun hb=>?_)
 · exact absurd hb (by decide)
 refine RF ?_;refine aF (b:=(1:Int)==1) rfl (fun hb=>?_) (fun hb=>?_)
 · refine RS ?_;have F:=aI rI (aI @u8.eq_1 (aI @cJ4 @denilL_u8));refine AU ?_;refine SCF (cS9 l c) ?_;refine AU ?_;refine aE ?_;simp only[gI,Tryz.results73,fV,gH,fJ,↓sP,sA,tyS,simprocAttr,rI];exact aK [] (.int .i64 (eD l c)) rfl rfl
 exact absurd hb (by decide)
theorem cJ6 (l:List UInt8)(c:UInt8)(hl:l.length<2^40):yN Tryz.prog 45 [.slc (l.map u8),.slc [u8 c]] (fun x y f=> ∃(li re:List UInt8) (fd:Bool),x= .slc (li.map u8)∧y= .slc (re.map u8)∧f= .bool fd∧CutR l c li re fd):=by
 refine FW Tryz.func45 ?_;have F:=rI;refine RF ?_;refine aC fun K hK=>?_;refine RS ?_;have F:=aI rI @denilL_u8;refine AU ?_;refine SCF (aF1 l c) ?_;refine SF ?_;refine RE ?_;have F:=rI;refine RF ?_;refine aF (b:=decide ((0:Int)≤eD l c)) rfl (fun hb=>?_) (fun hb=>?_)
 ·
  have hn: ¬eD l c<0:=by simp at hb;omega
  obtain⟨i,hi,hil,hsp⟩:=eT hn;have hi':=hi;rw[hi];refine aC fun K hK=>QR ?_;have F:=aI rI (aI @A0 (aI @H2 (aI @Int.sub_zero (aI @G8 (aI @L7.{0} (aI @lD (aI @denilL_u8 (aI @A2.{0,0} (show IntKind.i64.wrap ((i:Int)+1)=((i+1:Nat):Int)from by rw[A8 _ (by omega)];rfl)))))))));refine AU ?_;simp only[sE,↓reduceIte,simprocAttr,rI];refine AX (hK _ _ _ ?_);clear hK K;refine aE ?_;simp only[gI,Tryz.results45,fV,gH,fJ,↓sP,sA,tyS,simprocAttr,rI];refine dW [] (.slc ((l.take i).map u8)) (.slc ((l.drop (i+1)).map u8)) (.bool true) ?_ ⟨_,_,_,rfl,rfl,rfl,.inr ⟨rfl,i,hi,hil,rfl,rfl⟩⟩;simp[denilL_u8];exact⟨by rw[←List.map_take,denilL_u8],by rw[←List.map_drop,←List.map_take,denilL_u8,E6 (by simp)]⟩
 have hn:eD l c<0:=by simp at hb;omega
 refine aJ ?_;refine TQ rI ?_;refine AX (hK _ _ _ ?_);clear hK K;refine AU ?_;refine aE ?_;simp only[gI,Tryz.results45,fV,gH,fJ,↓sP,sA,tyS,simprocAttr,rI];refine dW [] (.slc (l.map u8)) (.slc []) (.bool false) ?_ ⟨l,[],false,rfl,rfl,rfl,.inl ⟨rfl,hn,rfl,rfl⟩⟩;simp[denilL_u8]
theorem cJ7 (l:List UInt8)(c:UInt8):bI1 Tryz.prog 74 99 [.slc (l.map u8),.slc [u8 c],.int .i64 0] [(23,.slc [u8 c]),(23,.slc (l.map u8)),(3,.int .i64 0)]:=by
 refine FW Tryz.func74 ?_;refine RS ?_;have F:=rI;refine AU ?_;refine aE ?_;simp only[gI,Tryz.results74,fV,gH,fJ,↓sP,sA,tyS,simprocAttr,rI];refine uZ (gf:=99) (bs:=[(23,.slc [u8 c]),(23,.slc (l.map u8)),(3,.int .i64 0)]) (ids:=[4,0,8]) rfl (by simp) (by decide) ?_ ?_
 ·
  intro j x hx
  match j,hx with
  |0,hx=>cases hx;rfl
  |1,hx=>cases hx;rfl
  |2,hx=>cases hx;rfl
 intro x hx;simp only[E9,I7,P1]at hx;rcases hx with rfl|rfl|rfl
 · rfl
 · exact congrArg CV.slc (denilL_u8 l)
 rfl
theorem bP4 (l:List UInt8)(c:UInt8):bI1 Tryz.prog 46 99 [.slc (l.map u8),.slc [u8 c]] [(23,.slc [u8 c]),(23,.slc (l.map u8)),(3,.int .i64 0)]:=by
 refine FW Tryz.func46 ?_;have F:=rI;refine RF ?_;refine aC fun K hK=>Rg ?_;iterate 2 refine S0 ?_ (e:=fun _ h_=>by simp only[sH,↓sP,sA,tyS,simprocAttr,rI,denilL_u8,oW,iZ,List.range',D0,H1];exact AX h_)
 refine HS rfl rfl fun K' hK'=>?_;simp only[sH,↓sP,sA,tyS,simprocAttr,rI,denilL_u8,oW,iZ,List.range',D0,H1];refine uY (args:=[_,_,_]) (cJ7 l c) (by simp) ⟨rfl,rfl,rfl,rfl⟩ ?_;refine AX (hK' _ _ ?_);clear hK' K';refine S0 ?_ (e:=fun _ h_=>by simp only[sH,↓sP,sA,tyS,simprocAttr,rI,denilL_u8,oW,iZ,List.range',D0,H1];exact AX h_);simp only[sE,↓reduceIte,simprocAttr,rI];refine AX (hK _ _ _ ?_);clear hK K;refine aE ?_;simp only[gI,Tryz.results46,fV,gH,fJ,↓sP,sA,tyS,simprocAttr,rI];refine uZ (gf:=99) (bs:=[(23,.slc [u8 c]),(23,.slc (l.map u8)),(3,.int .i64 0)]) (ids:=[12,13,14]) rfl (by simp) (by decide) ?_ ?_
 ·
  intro j x hx
  match j,hx with
  |0,hx=>cases hx;rfl
  |1,hx=>cases hx;rfl
  |2,hx=>cases hx;rfl
 intro x hx;simp only[E9,I7,P1]at hx;rcases hx with rfl|rfl|rfl
 · rfl
 · exact congrArg CV.slc (denilL_u8 l)
 rfl
end Go.Proofs.YtlgckianjabghaaGreatDoor
namespace Go.Pl
open Go Go.Hl
theorem tJ (c:UInt8): ∀l:List UInt8,(aQ c l).length=Lib.countByte l c+1
 |[]=>rfl
 |b::l=>by
  have ih:=tJ c l;unfold Lib.countByte at ih⊢;rw[List.count_cons];unfold aQ;by_cases h:b=c
  · rw[B6 h];simp only[B0,ih,h,L9,F7]
  ·
   have hb:(b==c)=false:=by simpa using h
   rw[A7 h];simp only[hb,E7,J2,N0];split
   · rename_i x xs hx;rw[hx]at ih;simpa using ih
   · rename_i hx;exact absurd hx (dM c l)
theorem bC8 {c:UInt8}{l:List UInt8}(h:(aQ c l).length=1):aQ c l=[l]:=by
 by_cases hn:eD l c<0;all_goals grind[oS,eT,List.length_pos_iff,dM,List.length_cons]
def SplSt (l:aH)(c:UInt8)(i:Nat)(rest:aH)(a:List aH):Prop:=
 a.length=(aQ c l).length∧a.take i=(aQ c l).take i∧(aQ c l).drop i=aQ c rest∧i<(aQ c l).length∧rest.length≤l.length
section
variable {l rest:aH}{c:UInt8}{i k:Nat}{a:List aH}
theorem SplSt.init (l:aH)(c:UInt8):SplSt l c 0 l (List.replicate (aQ c l).length []):=
 ⟨by simp,by simp,rfl,J0.2 (dM c l),F2 _⟩
theorem SplSt.next (h:SplSt l c i rest a)(hk:eD rest c=(k:Int)):k<rest.length∧SplSt l c (i+1) (rest.drop (k+1)) (a.set i (rest.take k)):=by
 obtain⟨h1,h2,h3,h4,h5⟩:=h;obtain⟨k',e1,e2,e3⟩:=eT (l:=rest) (c:=c) (by omega);have:k'=k:=by omega
 subst this;rw[e3]at h3;have h6:=B2 h4;rw[h6]at h3;have h7:=List.head_eq_of_cons_eq h3;have h8:=List.tail_eq_of_cons_eq h3;refine⟨e2,by grind,?_,h8,?_,by grind⟩
 · rw[B3 (by grind),List.take_succ_eq_append_getElem h4,List.getElem_set_self,List.take_set_of_le (Nat.le_refl _),h2,h7]
 grind[Nat.lt_or_ge,aQ,List.drop_eq_nil_of_le,absurd,dM]
theorem SplSt.last (h:SplSt l c i rest a)(hk:eD rest c<0):i+1=(aQ c l).length:=by
 obtain⟨h1,h2,h3,h4,h5⟩:=h;rw[oS hk]at h3;have:=congrArg List.length h3;grind
theorem SplSt.fin (h:SplSt l c i rest a)(hi:i+1=(aQ c l).length):a.set i rest=aQ c l:=by
 obtain⟨h1,h2,h3,h4,h5⟩:=h;have h6:(aQ c rest).length=1:=by rw[←h3,B8];omega
 rw[bC8 h6]at h3;have e1:a.set i rest=(a.set i rest).take (i+1):=(E6 (by grind)).symm;rw[e1,B3 (by grind),List.getElem_set_self,List.take_set_of_le (Nat.le_refl _),h2];grind[List.take_append_drop,aQ]
end
def kL (c:UInt8):Bool:=decide (48≤c.toNat)&&decide (c.toNat≤57)
def eJ :aH→Nat→Option Nat
 |[],n=>some n
 |c::l,n=>if kL c then eJ l (10*n+(c.toNat-48))else none
def fK (s:aH):Bool:=decide (s.length<1)||decide (13<s.length)||(decide (1<s.length)&&s.getD 0 0==48)
def bP (s:aH):Option Int:=if fK s then none else match eJ s 0 with|some n=>if 1099511627776<n then none else some (n:Int)|none=>none
def DgSt (s:aH)(i n:Nat):Prop:=i≤s.length∧eJ s 0=eJ (s.drop i) n∧n<10^i
theorem DgSt.init (s:aH):DgSt s 0 0:=⟨F9 _,rfl,by omega⟩
variable {i n:Nat}{s:aH}
theorem DgSt.next (h:DgSt s i n)(hi:i<s.length)(hd:kL s[i]=true):DgSt s (i+1) (10*n+(s[i].toNat-48)):=by
 obtain⟨h1,h2,h3⟩:=h;refine⟨hi,?_,?_⟩
 · rw[h2,B2 hi,eJ,B6 hd]
 · simp only[kL,A6,B9]at hd;grind
theorem DgSt.bad (h:DgSt s i n)(hi:i<s.length)(hd:kL s[i]=false):eJ s 0=none:=by
 rw[h.2.1,B2 hi,eJ,A7 (by grind)]
theorem DgSt.fin (h:DgSt s i n)(hi:i=s.length):eJ s 0=some n:=by
 rw[h.2.1,hi,S3];rfl
theorem DgSt.lt (h:DgSt s i n)(hs:s.length≤13):n<10000000000000:=by
 have:10^i≤10^13:=AL (by omega) (BH h.1 hs);have:=h.2.2;omega
theorem oX (h:fK s=true):bP s=none:=by unfold bP;grind
theorem qI (h:eJ s 0=none):bP s=none:=by grind[bP]
theorem aU1 (h:eJ s 0=some n)(h1:1099511627776<n):bP s=none:=by simp_all[bP,B6]
theorem aL6 {n:Nat}(h0:fK s=false)(h:eJ s 0=some n)(h1: ¬1099511627776<n):bP s=some (n:Int):=by simp_all[bP,A7]
theorem aU2 (c:UInt8):kL c=(decide ((48:Int)≤(c.toNat:Int))&&decide ((c.toNat:Int)≤57)):=by
 unfold kL;grind
theorem lG {n:Int}(h:bP s=some n):0≤n∧n≤1099511627776:=by grind[bP]
end Go.Pl
namespace Go.Proofs.YtlgckianjabghaaGreatDoor
open Go Go.Hl Go.Pl
theorem bP5 (l:List UInt8)(c:UInt8):cG Tryz.prog 93 [.str l,u8 c] (fun v=>v= .int .i64 (Lib.countByte l c:Nat)):=
 uT (f:=93) (fn:=Tryz.f93) (e:=Extern.BytealgCount.count) Tryz.func93 (by kernel_rfl) (by kernel_rfl) (by kernel_rfl) (by kernel_rfl) fun w ρ O xs h=>by
  simp only[D0,H1,bY,RepHV]at h;obtain⟨x,l1,rfl,hx,y,l2,rfl,hy,rfl⟩:=h;have h1:=RepV.single hx rfl;have h2:=RepV.single hy rfl;simp only[u8,RepC,G4,L8]at h1 h2;subst h1 h2;refine⟨_,_,rfl,eV _ _ _ _ _,?_⟩;have:=Lib.run_countString (P:=Tryz.prog) ⟨l.toArray⟩ (c.toNat:Int) w;simpa using this
theorem yY (l:List UInt8)(c:UInt8):cG Tryz.prog 94 [.str l,.str [c]] (fun v=>v= .int .i64 (eD l c)):=by
 refine FW Tryz.func94 ?_;refine R0 ?_;refine R0 ?_;refine aC fun K hK=>?_;refine aM ?_;refine aC fun K hK=>Rg ?_;iterate 3 refine S0 ?_
 refine aG 18 rfl (fun h2_18=>?_) (fun h2_18=>?_)
 ·
  have F:=h2_18;iterate 5 refine SF ?_
  refine T2 (hK _ _ _ ?_);clear hK K;refine CT rfl ?_;refine R0 ?_;refine aE (RT Tryz.results94 ?_);exact absurd h2_18 (by decide)
 have F:=h2_18;iterate 5 refine SF ?_
 refine aG 22 rfl (fun h2_22=>?_) (fun h2_22=>?_)
 · simp only[h2_22];refine T2 (hK _ _ _ ?_);clear hK K;refine CT rfl ?_;refine R0 ?_;refine aE (RT Tryz.results94 ?_);have hl:l=[c]:=(eq_of_beq h2_22).symm;subst hl;exact aK [] (.int .i64 0) rfl (by simp[eD])
 simp only[h2_22];refine T2 (hK _ _ _ ?_);clear hK K;refine CF rfl ?_;refine R0 ?_;refine aF (b:=(1:Int)==1) rfl (fun hb=>?_) (fun hb=>?_)
 ·
  refine aC fun K hK=>Rg ?_;have F:=aI @Q1.{0} (aI h2_18 h2_22);iterate 3 refine SF ?_
  refine HS rfl rfl fun K' hK'=>T6 ?_;refine C2 (bY0 l c) ?_;rintro u rfl;refine AX (hK' _ _ ?_);clear hK' K';refine SF ?_;refine T2 (hK _ _ _ ?_);clear hK K;refine aE (RT Tryz.results94 ?_);exact aK [] (.int .i64 (eD l c)) rfl rfl
 exact absurd hb (by decide)
theorem aU3 (l:List UInt8)(c:UInt8):cG Tryz.prog 72 [.str l,.str [c]] (fun v=>v= .int .i64 (eD l c)):=by
 refine FW Tryz.func72 ?_;refine AU ?_;refine SC (yY l c) ?_;refine AU ?_;refine aE (RT Tryz.results72 ?_);exact aK [] (.int .i64 (eD l c)) rfl rfl
theorem aU4 (l:List UInt8)(c:UInt8):cG Tryz.prog 71 [.str l,.str [c]] (fun v=>v= .int .i64 (Lib.countByte l c:Nat)):=by
 refine FW Tryz.func71 ?_;refine R0 ?_;refine aC fun K hK=>?_;refine R0 ?_;refine aF (b:=(1:Int)==0) rfl (fun hb=>?_) (fun hb=>?_)
 · exact absurd hb (by decide)
 refine aJ ?_;refine T0 (hK _ _ _ ?_);clear hK K;refine aC fun K hK=>?_;refine R0 ?_;refine aF (b:=(1:Int)==1) rfl (fun hb=>?_) (fun hb=>?_)
 · refine RS ?_;have F:=@Q1.{0};refine AU ?_;refine SCF (bP5 l c) ?_;refine AU ?_;refine aE (RT Tryz.results71 ?_);exact aK [] (.int .i64 _) rfl rfl
 exact absurd hb (by decide)
theorem aU5 (l:List UInt8)(c:UInt8)(hl:l.length<2^40):cG Tryz.prog 42 [.str l,.str [c],.int .i64 0,.int .i64 (-1)] (fun v=>v= .slc ((aQ c l).map .str)):=by
 refine FW Tryz.func42 ?_;refine R0 ?_;refine aC fun K hK=>?_;refine R0 ?_;refine aF (b:=(-1:Int)==0) rfl (fun hb=>?_) (fun hb=>?_)
 · exact absurd hb (by decide)
 refine aJ ?_;refine T0 (hK _ _ _ ?_);clear hK K;refine aC fun K hK=>?_;refine R0 ?_;refine aF (b:=[c]==[]) rfl (fun hb=>?_) (fun hb=>?_)
 · exact absurd hb (by simp)
 refine aJ ?_;refine T0 (hK _ _ _ ?_);clear hK K;refine aC fun K hK=>?_;refine R0 ?_;refine aF (b:=decide ((-1:Int)<0)) rfl (fun hb=>?_) (fun hb=>?_)
 ·
  obtain⟨n,hn⟩: ∃n,n=(aQ c l).length:=⟨_,rfl⟩;have hcount:=tJ c l;have hlen:=dP c l;rw[←hn]at hcount hlen;have hw0:IntKind.i64.wrap ((Lib.countByte l c:Nat)+1:Int)=(n:Int):=by rw[A8 _ (by omega)];omega
  refine Rg ?_;have F:=hw0;iterate 2 refine SF ?_
  refine HS rfl rfl fun K' hK'=>T6 ?_;refine C2 (aU4 l c) ?_;rintro u rfl;refine AX (hK' _ _ ?_);clear hK' K';iterate 2 refine SF ?_
  refine T2 (hK _ _ _ ?_);clear hK K;have hw1:IntKind.i64.wrap ((l.length:Int)+1)=((l.length+1:Nat):Int):=by rw[A8 _ (by omega)];omega
  have hmin:(if((l.length+1:Nat):Int)<(n:Int)then((l.length+1:Nat):Int)else(n:Int))=(n:Int):=by rw[A7 (by omega)]
  refine aC fun K hK=>Rg ?_;have F:=aI hw1 hmin;iterate 6 refine SF ?_
  refine T2 (hK _ _ _ ?_);clear hK K;have hn0:((n:Int)=0)=False:=by simp;omega
  have hrep:(List.replicate n (CV.str []))=(List.replicate n ([]:aH)).map .str:=by simp
  have F:=aI hn0 (aI hrep @A5);refine RF ?_;have hw2:IntKind.i64.wrap ((n:Int)-1)=((n-1:Nat):Int):=by rw[A8 _ (by omega)];omega
  have F:=hw2;refine RF ?_;refine R0 ?_;refine aC fun K hK=>?_;refine aM ?_;have hn1:1≤n:=by rw[hn];exact J0.2 (dM c l)
  refine bN (α:={y:Nat×aH×List aH//SplSt l c y.1 y.2.1 y.2.2}) (fun y=>(fin [(0,.c (.str y.1.2.1)),(1,.c (.str [c])),(2,.c (.int .i64 0)),(3,.c (.int .i64 (n-1:Nat))),(9,.own 76 n),(10,.c (.int .i64 y.1.1))],fob [(76,.row 9 1 (y.1.2.2.map .str))])) 100 (fun y=>y.1.2.1.length) ⟨(0,l,List.replicate n []),by rw[hn];exact SplSt.init l c⟩ (fF) ?_;rintro⟨⟨i,rest,a⟩,hst⟩;simp only at hst;have hin:i<n:=by rw[hn];exact hst.2.2.2.1
  have hal:a.length=n:=by rw[hn];exact hst.1
  have hia:i<a.length:=by omega
  have hna:nth (a.map CV.str) i= .str a[i]:=aV hia;have hrl:=hst.2.2.2.2;refine aC fun K hK=>?_;refine R0 ?_;refine aF (b:=decide ((i:Int)<((n-1:Nat):Int))) rfl (fun hb=>?_) (fun hb=>?_)
  ·
   have hi1:i+1<n:=by simp at hb;omega
   clear hb;refine aJ ?_;refine T0 (hK _ _ _ ?_);clear hK K;refine aM ?_;refine aC fun K hK=>Rg ?_;iterate 2 refine S0 ?_
   refine HS rfl rfl fun K' hK'=>T5 ?_;refine C2 (aU3 rest c) ?_;rintro u rfl;refine AX (hK' _ _ ?_);clear hK' K';refine S0 ?_;refine T2 (hK _ _ _ ?_);clear hK K;refine aC fun K hK=>?_;refine R0 ?_;refine aF (b:=decide (eD rest c<0)) rfl (fun hb=>?_) (fun hb=>?_)
   · have:=hst.last (by simpa using hb);omega
   obtain⟨k,hk,hkl,_⟩:=eT (l:=rest) (c:=c) (by simpa using hb);obtain⟨_,hnx⟩:=hst.next hk;rw[hk];have hkl1:k+1≤rest.length:=hkl;have hw3:IntKind.i64.wrap ((k:Int)+0)=(k:Int):=by rw[A8 _ (by omega)];omega
   have hw4:IntKind.i64.wrap ((k:Int)+1)=((k+1:Nat):Int):=by rw[A8 _ (by omega)];rfl
   have hw5:IntKind.i64.wrap ((i:Int)+1)=((i+1:Nat):Int):=by rw[A8 _ (by omega)];rfl
   have htd:List.take (rest.length-(k+1)) (List.drop (k+1) rest)=List.drop (k+1) rest:=E6 (by simp);refine aJ ?_;refine T0 (hK _ _ _ ?_);clear hK K;refine aC fun K hK=>Rg ?_;iterate 9 refine S0 ?_ (e:=fun _ h_=>by simp only[sH,↓sP,sA,tyS,simprocAttr,A0,H2,A4,S5 hkl,hw3,G8,L7,A2,hal,hin,hna];exact AX h_)
   refine T2 (hK _ _ _ ?_);clear hK K;refine aC fun K hK=>Rg ?_;have F:=aI @A0 (aI @H2 (aI hkl1 (aI hw4 htd)));iterate 7 refine SF ?_
   refine T2 (hK _ _ _ ?_);clear hK K;refine aL (by kernel_rfl) ?_;refine TQ hw5 ?_;refine⟨⟨(i+1,rest.drop (k+1),a.set i (rest.take k)),hnx⟩,aP (by omega) ?_ ?_,?_⟩
   · simp
   · simp only[dC,N4];exact⟨rfl,by omega,trivial,trivial⟩
   show(rest.drop (k+1)).length<rest.length;simp;omega
  refine bG (T3 ?_);clear hK K;refine AX (hK _ _ _ ?_);clear hK K;have hi1:i+1=n:=by simp at hb;omega
  have hfin:=hst.fin (by omega);have hw5:IntKind.i64.wrap ((i:Int)+1)=(n:Int):=by rw[A8 _ (by omega)];omega
  refine aC fun K hK=>Rg ?_;have F:=aI @A0 (aI @A4 (aI @A2.{0,0} (aI hal (aI hin hna))));iterate 5 refine SF ?_
  refine T2 (hK _ _ _ ?_);clear hK K;refine aC fun K hK=>Rg ?_;have F:=aI @A0 (aI hw5 (aI @A2.{0,0} (aI @M6.{0} (aI hal @S1))));iterate 5 refine SF ?_
  refine T2 (hK _ _ _ ?_);clear hK K;refine aE (RT Tryz.results42 ?_);refine aK [76] (.slc ((aQ c l).map .str)) ?_ rfl;have hset:(a.map CV.str).set i (CV.str rest)=(aQ c l).map .str:=by rw[←List.map_set,hfin]
  have ht:List.take n ((aQ c l).map CV.str)=(aQ c l).map .str:=E6 (by simp[hn]);rw[hset];have hn0':0<n:=hn1;simp[←hn,denilL_str,ht,hn0']
 exact absurd hb (by decide)
theorem oY (l:List UInt8)(c:UInt8)(hl:l.length<2^40):cG Tryz.prog 20 [.str l,.str [c]] (fun v=>v= .slc ((aQ c l).map .str)):=by
 refine FW Tryz.func20 ?_;refine AU ?_;refine SC (aU5 l c hl) ?_;refine AU ?_;refine aE (RT Tryz.results20 ?_);exact aK [] (.slc ((aQ c l).map .str)) (by simp[denilL_str]) rfl
end Go.Proofs.YtlgckianjabghaaGreatDoor
namespace Go.Pl
open Go Go.Hl
def tab (n:Nat)(f:Nat→Bool):List Bool:=(List.range n).map f
theorem nS (n:Nat)(f:Nat→Bool):(tab n f).length=n:=by simp[tab]
variable {i n:Nat}{f:Nat→Bool}
theorem tK (h:i<n):(tab n f)[i]'(by rw[nS];exact h)=f i:=by simp[tab]
theorem bP6 (n:Nat):List.replicate n false=tab n (fun _=>false):=by
 refine Z5 (by simp[nS]) fun i h1 h2=>?_;grind[tK]
theorem cJ8 {b:Bool}:(tab n f).set i b=tab n (fun j=>if j=i then b else f j):=by
 refine Z5 (by simp[nS]) fun j h1 h2=>?_;rw[nS]at h2;rw[tK h2,List.getElem_set];by_cases e:i=j
 · grind
 · rw[A7 e,A7 fun h=>e h.symm,tK h2]
theorem bI5 {g:Nat→Bool}(h: ∀i,i<n→f i=g i):tab n f=tab n g:=by grind[List.ext_getElem,nS,tK]
def bC1 (b:Bool):CV:= .bool b
theorem cJ9 (h:i<n):nth ((tab n f).map bC1) i= .bool (f i):=by
 rw[aV (by rw[nS];exact h),tK h];rfl
section
variable (ps:List Pt)(s:aH)
def prt (k:Nat):Pt:=ps.getD k ⟨0,0⟩
theorem cY2 :mD ps s 0 0=true:=by rw[mD.eq_def]
theorem cY3 (i:Nat):mD ps s 0 (i+1)=false:=by rw[mD.eq_def]
theorem cY4 (k:Nat):mD ps s (k+1) 0=((prt ps k).long&&mD ps s k 0):=by rw[mD.eq_def];rfl
theorem rC (k i:Nat):mD ps s (k+1) (i+1)=if(prt ps k).long then mD ps s k (i+1)||(mD ps s (k+1) i&&(prt ps k).takes (s.getD i 0))else mD ps s k i&&(prt ps k).takes (s.getD i 0):=by
 rw[mD.eq_def];rfl
def nxt (k i j:Nat):Bool:=if j≤i then mD ps s (k+1) j else false
theorem bY1 (k:Nat)(j:Nat):(if j=0 then(mD ps s k 0&&(prt ps k).long)else false)=nxt ps s k 0 j:=by
 unfold nxt;by_cases h:j=0
 · subst h;rw[B6 rfl,B6 (F2 _),cY4,Bool.and_comm]
 · rw[A7 h,A7 (by omega)]
theorem bY2 (k i:Nat)(j:Nat):(if j=i+1 then mD ps s (k+1) (i+1)else nxt ps s k i j)=nxt ps s k (i+1) j:=by
 unfold nxt;grind
theorem cK0 (k:Nat):tab (s.length+1) (nxt ps s k s.length)=tab (s.length+1) (mD ps s (k+1)):=
 bI5 fun i hi=>by unfold nxt;grind
theorem bY3 :tab (s.length+1) (fun j=>if j=0 then true else false)=tab (s.length+1) (mD ps s 0):=
 bI5 fun i _=>by
  cases i with
  |zero=>rw[cY2];rfl
  |succ i=>rw[cY3];rfl
def p1 (i k j:Nat):Bool:=(decide (j<k)&&((prt ps j).long&&(mN ps s j i&&(prt ps j).takes (s.getD i 0))))||
 (decide (1≤j)&&(decide (j-1<k)&&(!(prt ps (j-1)).long&&(mN ps s (j-1) i&&(prt ps (j-1)).takes (s.getD i 0)))))
def p2 (i k j:Nat):Bool:=if j≤k then mN ps s j (i+1)else p1 ps s i ps.length j
end
end Go.Pl
namespace Go.Proofs.YtlgckianjabghaaGreatDoor
open Go Go.Hl Go.Pl
theorem bP7 (c d:UInt8):((c.toNat:Int)==(d.toNat:Int))=(c==d):=by
 by_cases h:c=d
 · simp[h]
 have: ¬(c.toNat:Int)=(d.toNat:Int):=fun e=>h (N9.1 (by omega));rw[H4 this,H4 h]
theorem dB7 (c d:UInt8):((c.toNat:Int) !=(d.toNat:Int))=!(c==d):=by
 show(!((c.toNat:Int)==(d.toNat:Int)))=_;rw[bP7]
theorem gN (x:Pt)(hk:x.k≤3):cG Tryz.prog 89 [x.cv] (fun v=>v= .bool x.long):=by
 refine FW Tryz.func89 ?_;have F:=aI @Pt.cells (aI @Pt.isAgg @Pt.getAll);refine RF ?_;refine RS ?_;have F:=@Pt.get_k;refine AU ?_;refine aG 5 rfl (fun h1_5=>?_) (fun h1_5=>?_)
 ·
  have F:=aI @Pt.get_k h1_5;refine AU ?_;refine aE (RT Tryz.results89 ?_);refine aK [] (.bool _) rfl ?_;have hkk:x.k=0∨x.k=1∨x.k=2∨x.k=3:=by omega
  rcases hkk with h|h|h|h<;>simp_all[Pt.long]
 have F:=aI @Pt.get_k h1_5;refine AU ?_;refine aE (RT Tryz.results89 ?_);refine aK [] (.bool _) rfl ?_;have hkk:x.k=0∨x.k=1∨x.k=2∨x.k=3:=by omega
 rcases hkk with h|h|h|h<;>simp_all[Pt.long]
theorem cK1 (c:UInt8):cG Tryz.prog 108 [u8 c] (fun v=>v= .bool true):=by
 refine FW Tryz.func108 ?_;refine AU ?_;refine aE (RT Tryz.results108 ?_);exact aK [] (.bool true) rfl rfl
theorem bI6 (c:UInt8):cG Tryz.prog 109 [u8 c] (fun v=>v= .bool (!(c==47))):=by
 refine FW Tryz.func109 ?_;refine AU ?_;refine aE (RT Tryz.results109 ?_);exact aK [] (.bool (!(c==47))) (by rw[←dB7 c 47];rfl) rfl
end Go.Proofs.YtlgckianjabghaaGreatDoor
namespace Go.Pl
open Go Go.Hl
def aft (l:List Nd)(i:Nat):Nat:=l.length-((skip 1 (l.drop i)).getD []).length
variable {i:Nat}{l:List Nd}
theorem bC9 {j:Nat}(hj:j≤l.length)(h:skip 1 (l.drop i)=some (l.drop j)):aft l i=j:=by grind[aft,List.length_drop]
theorem jL (h:IsTree l)(hi:i<l.length):i<aft l i∧aft l i≤l.length∧skip 1 (l.drop i)=some (l.drop (aft l i)):=by grind[bW3,bC9]
def AftSt (l:List Nd)(i m p:Nat):Prop:=p≤l.length∧skip m (l.drop p)=skip 1 (l.drop i)
theorem AftSt.lt (ht:IsTree l){m p:Nat}(hi:i<l.length)(h:AftSt l i m p)(hm:0<m):p<l.length:=by
 rcases H0 p l.length with h1|h1
 · grind
 · have h2:=h.2;rw[H9 h1,(jL ht hi).2.2]at h2;obtain⟨k,rfl⟩: ∃k,m=k+1:=⟨m-1,by omega⟩;cases h2
theorem AftSt.next {m p:Nat}(h:AftSt l i (m+1) p)(hp:p<l.length):AftSt l i (m+l[p].c.toNat) (p+1):=by
 refine⟨hp,?_⟩;rw[←h.2,B2 hp];rfl
theorem AftSt.fin {p:Nat}(h:AftSt l i 0 p):p=aft l i:=by
 have h2:=h.2;rw[dL]at h2;exact(bC9 h.1 h2.symm).symm
def mT (l:List Nd):Nat→Nat→List Nat
 |0,_=>[]
 |k+1,at_=>at_::mT l k (aft l at_)
def bY4 (l:List Nd)(i:Nat):List Nat:=mT l (l.getD i nd0).c.toNat (i+1)
def vB (l:List Nd)(i:Int):List Nat:=if eB l=true∧0≤i∧i<l.length then bY4 l i.toNat else []
theorem aF2 (l:List Nd): ∀(k p:Nat),(mT l k p).length=k
 |0,_=>rfl
 |k+1,p=>by simp[mT,aF2 l k]
def eH (l:List Nd):Nat→Nat→Nat
 |0,p=>p
 |k+1,p=>eH l k (aft l p)
theorem iQ (l:List Nd): ∀(k p:Nat),eH l (k+1) p=aft l (eH l k p)
 |0,p=>rfl
 |k+1,p=>iQ l k (aft l p)
theorem yZ (l:List Nd): ∀(k p:Nat),mT l (k+1) p=mT l k p++[eH l k p]
 |0,p=>rfl
 |k+1,p=>by rw[mT,yZ l k];rfl
theorem iR {l:List Nd}(ht:IsTree l){i:Nat}(hi:i<l.length): ∀k,k≤l[i].c.toNat→eH l k (i+1)≤l.length∧skip (l[i].c.toNat-k) (l.drop (eH l k (i+1)))=some (l.drop (aft l i))∧i+1≤eH l k (i+1)
 |0,_=>by
  refine⟨hi,?_,F2 _⟩;have:=(jL ht hi).2.2;rw[B2 hi]at this;show skip (l[i].c.toNat-0) _=_;rw[←this,G8];show _=skip (0+l[i].c.toNat) _;rw[F3];rfl
 |k+1,hk=>by
  obtain⟨h1,h2,h3⟩:=iR ht hi k (by omega);have hlt:eH l k (i+1)<l.length:=by
   rcases H0 (eH l k (i+1)) l.length with h|h
   · exact h
   · rw[H9 h]at h2;obtain⟨q,hq⟩: ∃q,l[i].c.toNat-k=q+1:=⟨l[i].c.toNat-k-1,by omega⟩;rw[hq]at h2;cases h2
  obtain⟨a1,a2,a3⟩:=jL ht hlt;rw[iQ];refine⟨a2,?_,by omega⟩;obtain⟨q,hq⟩: ∃q,l[i].c.toNat-k=1+q:=⟨l[i].c.toNat-k-1,by omega⟩;rw[hq,fW,a3]at h2;grind
theorem mU (ht:IsTree l)(hi:i<l.length){k:Nat}(hk:k<l[i].c.toNat):eH l k (i+1)<l.length:=by
 obtain⟨h1,h2,_⟩:=iR ht hi k (by omega);rcases H0 (eH l k (i+1)) l.length with h|h
 · exact h
 · rw[H9 h]at h2;obtain⟨q,hq⟩: ∃q,l[i].c.toNat-k=q+1:=⟨l[i].c.toNat-k-1,by omega⟩;rw[hq]at h2;cases h2
def jA :Nat→List Nd→List Nat
 |_,[]=>[]
 |o,n::l=>if n.k=1 then o::jA (o+1) l else jA (o+1) l
def kM (l:List Nd):List Nat:=if eB l then jA 0 l else []
theorem mV : ∀(l:List Nd) (o:Nat),(jA o l).length=lv l
 |[],_=>rfl
 |n::l,o=>by
  rw[jA,lv];split
  · simp[mV l];omega
  · simp[mV l]
theorem tL : ∀(a b:List Nd) (o:Nat),jA o (a++b)=jA o a++jA (o+a.length) b
 |[],b,o=>by simp[jA]
 |n::a,b,o=>by
  simp only[J4,jA,tL a b,B0];grind
theorem bD0 (h:i<l.length):jA 0 (l.take (i+1))=jA 0 (l.take i)++(if l[i].k=1 then [i]else []):=by
 rw[B3 h,tL];have:(l.take i).length=i:=by simp;omega
 simp_all[F3,jA]
theorem aU6 (h:IsTree l):1≤lv l:=by
 have key: ∀(l:List Nd) (m:Nat),skip (m+1) l=some []→(∀n∈l,cB n=true)→1≤lv l:=by
  intro l;induction l with
  |nil=>intro m h;cases h
  |cons n l ih=>
   intro m h hn;have h':skip (m+n.c.toNat) l=some []:=h;obtain⟨c1,c2,c3,c4⟩:=eF (hn n F6);rw[lv];split
   · omega
   · rename_i hk;have:=c4 hk;obtain⟨q,hq⟩: ∃q,m+n.c.toNat=q+1:=⟨m+n.c.toNat-1,by omega⟩;grind
 exact key l 0 h.skip h.node
def cnt (l:List Bool):Nat:=(l.filter id).length
theorem cT0 (l:List Bool):cnt l≤l.length:=List.length_filter_le _ _
theorem aU7 (l:List Bool):cnt l.reverse=cnt l:=by simp[cnt,List.filter_reverse]
def mW (n:Nd)(l:List Bool):Bool:=if n.k=2 then cnt l==l.length else if n.k=3 then decide (1≤cnt l)else decide (n.n≤cnt l)
def evS (T:Nat)(tr:List Bool):List Nd→List Bool
 |[]=>[]
 |n::l=>if n.k=1 then tr.getD (T-lv (n::l)) false::evS T tr l else mW n ((evS T tr l).take n.c.toNat)::(evS T tr l).drop n.c.toNat
theorem aL7 {T:Nat}{tr:List Bool}: ∀(l:List Nd) (m:Nat),(∀n∈l,cB n=true)→skip m l=some []→(evS T tr l).length=m
 |[],0,_,_=>rfl
 |[],m+1,_,h=>by cases h
 |n::l,0,_,h=>by grind[dL]
 |n::l,m+1,hn,h=>by
  have h':skip (m+n.c.toNat) l=some []:=h;have ih:=aL7 (T:=T) (tr:=tr) l _ (fun x hx=>hn x (F5 _ hx)) h';obtain⟨c1,c2,c3,c4⟩:=eF (hn n F6);grind[evS,List.length_cons,List.length_drop]
def zA (l:List Nd)(tr:List Bool):Bool:=eB l&&(evS (lv l) tr l).headD false
theorem aL8 (l:List Nd)(i:Nat):lv (l.take i)+lv (l.drop i)=lv l:=by rw[←uQ,R3]
theorem bY5 (ht:IsTree l){tr:List Bool}(hi:i<l.length):l[i].c.toNat≤(evS (lv l) tr (l.drop (i+1))).length:=by
 obtain⟨k,hk⟩:=uR l 1 ht.skip ht.node i hi;rw[B2 hi]at hk;have hk':skip (k+l[i].c.toNat) (l.drop (i+1))=some []:=hk;rw[aL7 _ _ (fun n hn=>ht.node n (G1 hn)) hk'];omega
theorem wJ (c:UInt8): ∀m:aH,aQ c (m++[c])=aQ c m++[[]]
 |[]=>by simp[aQ]
 |b::m=>by
  have ih:=wJ c m;simp only[J4];rw[aQ,aQ];by_cases h:b=c
  · grind
  · rw[A7 h,A7 h,ih];grind[aQ,absurd,dM]
theorem lT {c:UInt8}: ∀{l:aH},l≠[]→(aQ c l).getLast (dM c l)=[]→ ∃m,l=m++[c]
 |[],h,_=>absurd rfl h
 |b::l,_,hl=>by
  by_cases h:b=c
  ·
   subst h;have hs:aQ b (b::l)=[]::aQ b l:=by rw[aQ,B6 rfl]
   cases l with
   |nil=>simp_all
   |cons d l=>
    have:(aQ b (d::l)).getLast (dM b _)=[]:=by
     simp only[hs]at hl;rw[BP (dM b _)]at hl;exact hl
    obtain⟨m,hm⟩:=lT (l:=d::l) (by simp) this;grind
  ·
   cases hs:aQ c l with
   |nil=>exact absurd hs (dM c l)
   |cons x xs=>
    have hs2:aQ c (b::l)=(b::x)::xs:=by rw[aQ,A7 h,hs]
    simp only[hs2]at hl;cases xs with
    |nil=>grind
    |cons y ys=>
     have hne:l≠[]:=by rintro rfl;simp[aQ]at hs
     have:(aQ c l).getLast (dM c l)=[]:=by
      simp only[hs];rw[BP (by simp)]at hl⊢;exact hl
     obtain⟨m,hm⟩:=lT hne this;grind
def nZ (c:UInt8):List aH→aH
 |[]=>[]
 |w::l=>w++l.flatMap fun v=>c::v
theorem oZ (c:UInt8): ∀l:aH,nZ c (aQ c l)=l
 |[]=>rfl
 |b::l=>by
  have ih:=oZ c l;rw[aQ];cases hs:aQ c l with
  |nil=>exact absurd hs (dM c l)
  |cons x xs=>
   grind[nZ]
theorem wK {c:UInt8}: ∀{w:aH},(∀b∈w,b≠c)→aQ c w=[w]
 |[],_=>rfl
 |b::w,h=>by
  rw[aQ,A7 (h b F6),wK fun x hx=>h x (F5 _ hx)]
theorem zB {c:UInt8}{r:aH}: ∀{w:aH},(∀b∈w,b≠c)→aQ c (w++c::r)=w::aQ c r
 |[],_=>by simp only[I9];rw[aQ,B6 rfl]
 |b::w,h=>by
  simp only[J4];rw[aQ,A7 (h b F6),zB fun x hx=>h x (F5 _ hx)]
theorem pA {c:UInt8}: ∀{l:List aH},l≠[]→(∀w∈l,∀b∈w,b≠c)→aQ c (nZ c l)=l
 |[],h,_=>absurd rfl h
 |[w],_,h=>by grind[nZ,wK,List.mem_cons_self]
 |w::v::l,_,h=>by
  have ih:=pA (c:=c) (l:=v::l) (by simp) fun x hx=>h x (F5 _ hx);grind[nZ,zB,List.mem_cons_self]
theorem bD1 (c:UInt8)(m:aH):((aQ c m).flatMap fun r=>r++[c])=m++[c]:=by
 have h:=oZ c m;cases hs:aQ c m with
 |nil=>exact absurd hs (dM c m)
 |cons x xs=>
  rw[hs]at h;simp only[nZ]at h;rw[←h];have key: ∀(x:aH) (xs:List aH),(List.flatMap (fun r=>r++[c]) (x::xs))=(x++xs.flatMap fun v=>c::v)++[c]:=by
   intro x xs;induction xs generalizing x with
   |nil=>simp
   |cons y ys ih=>
    grind
  grind
set_option maxRecDepth 20000 in
theorem aU8 {c:UInt8}(h:valH c<16):oQ (valH c)=c:=by
 have key: ∀n:Fin 256,valH (UInt8.ofNat n.1)<16→oQ (valH (UInt8.ofNat n.1))=UInt8.ofNat n.1:=by decide
 have:=key ⟨c.toNat,c.toNat_lt⟩;simp_all
set_option maxRecDepth 20000 in
theorem aF3 {n:Nat}(h:n<16):valH (oQ n)=n:=by
 have key: ∀n:Fin 16,valH (oQ n.1)=n.1:=by decide
 exact key ⟨n,h⟩
theorem bY6 {x y:UInt8}(h:okH x y=true):kK (byteH x y)=[37,x,y]:=by
 simp only[okH,A6,B9,J8]at h;obtain⟨⟨h1,h2⟩,h3⟩:=h;unfold kK;rw[h3,uU h1 h2];have e1:(16*valH x+valH y)/16=valH x:=by omega
 have e2:(16*valH x+valH y)%16=valH y:=by omega
 simp only[E7,J2,e1,e2,aU8 h1,aU8 h2]
variable {c:UInt8}
theorem zC (h:cY c=true):kK c=[c]:=by unfold kK;grind
theorem aL9 : ∀(n:Nat) {s w:aH},s.length≤n→unB s=some w→dH w=s
 |0,s,w,hn,h=>by simp_all[D5,unB,D6]
 |n+1,[],w,_,h=>by simp_all[unB,D6]
 |n+1,c::l,w,hn,h=>by
  simp only[B0]at hn;by_cases hp:cY c=true
  · rw[qE hp,C8]at h;obtain⟨w',h',rfl⟩:=h;have ih:=aL9 n (by omega) h';grind[dH,zC]
  ·
   have hp:cY c=false:=by simpa using hp
   by_cases hc:c=37
   ·
    subst hc
    match l,h with
    |[],h=>grind[xD]
    |[x],h=>grind[xD]
    |x::y::l',h=>
     by_cases ho:okH x y=true
     · rw[aK9 ho,C8]at h;obtain⟨w',h',rfl⟩:=h;have ih:=aL9 n (by grind) h';grind[dH,bY6]
     grind[wE]
   grind[xD]
variable {s:aH}
theorem cK2 {w:aH}(h:unW s=some w):gQ w=s:=by
 unfold unW at h;split at h
 · rename_i hs;cases h;rw[hs];rfl
 ·
  split at h
  · cases h
  · rename_i h1 h2;have:=aL9 _ (F2 _) h;unfold gQ;rw[A7 (cS7 h2 h),this]
theorem aF4 : ∀w:aH,unB (dH w)=some w
 |[]=>rfl
 |c::w=>by
  have ih:=aF4 w;have e:dH (c::w)=kK c++dH w:=by simp[dH]
  rw[e];by_cases hp:cY c=true
  · grind[zC,qE]
  ·
   have hp:cY c=false:=by simpa using hp
   have hlt:=c.toNat_lt;have h1:valH (oQ (c.toNat/16))=c.toNat/16:=aF3 (by omega);have h2:valH (oQ (c.toNat%16))=c.toNat%16:=aF3 (by omega);have hb:byteH (oQ (c.toNat/16)) (oQ (c.toNat%16))=c:=by
    unfold byteH;rw[h1,h2,Nat.div_add_mod];exact UInt8.ofNat_toNat
   have ho:okH (oQ (c.toNat/16)) (oQ (c.toNat%16))=true:=by
    simp only[okH,hb,hp,h1,h2,A6,B9,D7,L8];omega
   grind[kK,oQ,aK9]
variable {b:UInt8}
theorem aF5 (h:b∈kK c):b≠10∧b≠32∧b≠126:=by
 unfold kK at h;split at h
 · rename_i hp;simp only[G0]at h;subst h;refine⟨?_,?_,?_⟩<;>(rintro rfl;revert hp;decide)
 ·
  have key: ∀n:Nat,oQ n≠10∧oQ n≠32∧oQ n≠126:=by
   intro n;unfold oQ;rcases H0 n 16 with hn|hn
   ·
    have: ∀n:Fin 16,([48,49,50,51,52,53,54,55,56,57,65,66,67,68,69,70]:List UInt8).getD n.1 0≠10∧([48,49,50,51,52,53,54,55,56,57,65,66,67,68,69,70]:List UInt8).getD n.1 0≠32∧([48,49,50,51,52,53,54,55,56,57,65,66,67,68,69,70]:List UInt8).getD n.1 0≠126:=by decide
    exact this ⟨n,hn⟩
   · simp_all
  grind
theorem vC {w:aH}(h:b∈gQ w):b≠10∧b≠32:=by
 unfold gQ at h;split at h
 · grind
 · obtain⟨c,_,hc⟩:=K6.1 h;grind[aF5]
theorem bY7 (w:aH):unW (gQ w)=some w:=by
 unfold gQ;split
 · rename_i h;subst h;rfl
 ·
  rename_i h;have hne:dH w≠[]:=by
   intro he;have:=aS2 w;rw[he]at this;exact h (D5 (by grind))
  have h126:dH w≠[126]:=by
   intro he;have hm:(126:UInt8)∈dH w:=by rw[he];simp
   obtain⟨c,_,hc⟩:=K6.1 hm;exact(aF5 hc).2.2 rfl
  simp_all[unW,A7,aF4]
theorem qJ {α β:Type}{f:α→Option β}: ∀{l:List α} {m:List β},l.mapM f=some m→(∀{g:β→α},(∀x y,f x=some y→g y=x)→m.map g=l)∧m.length=l.length
 |[],m,h=>by grind
 |a::l,m,h=>by
  rw[M9]at h;cases ha:f a with
  |none=>grind
  |some b=>
   rw[ha]at h;cases hl:l.mapM f with
   |none=>grind
   |some m'=>
    rw[hl]at h;cases h;obtain⟨h1,h2⟩:=qJ hl;grind
theorem aF6 (l:List aH):fR l=nZ 32 (l.map gQ):=by
 cases l with
 |nil=>rfl
 |cons w l=>simp[fR,nZ,List.flatMap_map]
variable {r:aH}
theorem cK3 {ws:List aH}(h:unL r=some ws):fR ws=r:=by
 have:=(qJ h).1 (g:=gQ) fun x y h=>cK2 h;rw[aF6,this,oZ]
theorem aF7 : ∀l:List aH,(l.map gQ).mapM unW=some l
 |[]=>rfl
 |w::l=>by rw[D0,M9,bY7,aF7 l];rfl
theorem bY8 {l:List aH}(h:l≠[]):unL (fR l)=some l:=by
 unfold unL;rw[aF6,pA (by simp_all) (by
  intro w hw b hb;obtain⟨v,_,rfl⟩:=L3.1 hw;exact(vC hb).2),aF7]
theorem bP8 {l:List aH}(h:b∈fR l):b≠10:=by
 cases l with
 |nil=>simp at h
 |cons w l=>
  simp only[fR,F4,K6]at h;rcases h with h|⟨v,_,h⟩
  · exact(vC h).1
  · rcases E9.1 h with rfl|h;all_goals grind[vC]
variable {ls:List (List aH)}
theorem bP9 (h:ls≠[]):eO ls=nZ 10 (ls.map fR)++[10]:=by
 cases ls with
 |nil=>grind
 |cons l ls=>
  have key: ∀(l:List aH) (ls:List (List aH)),eO (l::ls)=nZ 10 ((l::ls).map fR)++[10]:=by
   intro l ls;induction ls generalizing l with
   |nil=>simp[eO,nZ,qT]
   |cons k ls ih=>
    grind[eO,qT,nZ]
  grind
theorem qK (m:aH):gX (m++[10])=(aQ 10 m).mapM unR:=by simp_all[wJ,gX,A7,B6,List.dropLast_concat]
theorem bQ0 (h: ∀l∈ls,okL l=true):gX (eO ls)=some ls:=by
 by_cases hne:ls=[]
 · subst hne;simp[gX]
 ·
  rw[bP9 hne,qK,pA (by simpa using hne) (by
   intro w hw b hb;obtain⟨l,_,rfl⟩:=L3.1 hw;exact bP8 hb)]
  clear hne;induction ls with
  |nil=>rfl
  |cons l ls ih=>
   have hl:=h l F6;have hr:unR (fR l)=some l:=by
    unfold unR;rw[bY8 ((gR l).1 hl).1];simp only[hl,F7]
   rw[D0,M9,hr,ih fun x hx=>h x (F5 _ hx)];rfl
variable {rs:List aH}
theorem aU9 (h:rs.mapM unL=some ls):rs.mapM unR=if ls.all okL then some ls else none:=by
 induction rs generalizing ls with
 |nil=>grind
 |cons r rs ih=>
  rw[M9]at h;cases hr:unL r with
  |none=>grind
  |some l=>
   rw[hr]at h;cases hl:rs.mapM unL with
   |none=>grind
   |some m=>
    rw[hl]at h;cases h;rw[M9,ih hl];unfold unR;rw[hr];simp only[List.all_cons];by_cases h1:okL l=true
    · grind
    grind
theorem rD (h:rs.mapM unL=none):rs.mapM unR=none:=by
 induction rs with
 |nil=>grind
 |cons r rs ih=>
  rw[M9]at h⊢;cases hr:unL r with
  |none=>unfold unR;grind
  |some l=>
   rw[hr]at h;have:rs.mapM unL=none:=by
    cases hl:rs.mapM unL with
    |none=>rfl
    |some m=>rw[hl]at h;cases h
   rw[ih this];cases unR r<;>rfl
variable {m:aH}
theorem aF8 (h:(aQ 10 m).mapM unL=some ls):eO ls=m++[10]:=by
 have h1:=(qJ h).1 (g:=fR) fun x y h=>cK3 h;have h2:=bD1 10 m;rw[←h1]at h2;rw[←h2];simp only[eO,List.flatMap_map];rfl
theorem aF9 {b:aH}(hb: ¬262144<b.length)(hne:b≠[])(h:b.getD (b.length-1) 0≠10):dZ b=2:=by
 have:gX b=none:=by
  unfold gX;rw[A7 hne,A7];intro hl;obtain⟨m,rfl⟩:=lT hne hl;simp at h
 unfold dZ;rw[A7 hb,this]
theorem aG0 (hb: ¬262144<(m++[10]).length)(h:(aQ 10 m).mapM unL=none):dZ (m++[10])=2:=by
 unfold dZ;rw[A7 hb,qK,rD h]
theorem zD (hb: ¬262144<(m++[10]).length)(h:(aQ 10 m).mapM unL=some ls):(gL ls=0→dZ (m++[10])=0∧decO (m++[10])=ls)∧(gL ls≠0→dZ (m++[10])=2):=by
 have hd:=aF8 h;have hv:=aU9 h;rw[←qK]at hv;by_cases hk:ls.all okL=true
 ·
  rw[B6 hk]at hv;have hE:dZ (m++[10])=if 1000<ls.length then 2 else 0:=by unfold dZ;rw[A7 hb,hv]
  by_cases hl:1000<ls.length
  · rw[B6 hl]at hE;exact⟨fun he=>absurd (he.symm.trans (qC hl)) (by decide),fun _=>hE⟩
  ·
   rw[A7 hl]at hE;have he:gL ls=0:=by
    rw[nK (by omega) (by simpa using hk),hd,A7 hb]
   exact⟨fun _=>⟨hE,by unfold decO;rw[B6 hE,hv];rfl⟩,fun hn=>absurd he hn⟩
 ·
  rw[A7 hk]at hv;have hE:dZ (m++[10])=2:=by unfold dZ;rw[A7 hb,hv]
  refine⟨fun he=>?_,fun _=>hE⟩;exfalso;apply hk;unfold gL at he;split at he
  · cases he
  ·
   split at he
   · rename_i l hf;have:=List.find?_some hf;exact absurd he (bH3 (by simpa using this))
   · rename_i hf;rw[BC]at hf;rw[H6];intro l hl;simpa using hf l hl
def lsT (rows:List aH)(i:Nat):List (List aH):=(rows.take i).map fun r=>(unL r).getD []
variable {rows:List aH}
theorem tM (h:i<rows.length):lsT rows (i+1)=lsT rows i++[(unL rows[i]).getD []]:=by
 simp only[lsT,B3 h,C5,D0,H1]
theorem zE (h:i≤rows.length):(lsT rows i).length=i:=by
 simp only[lsT,A2,D9];omega
theorem zF (h:i<(aQ 32 r).length)(h2:(unW (aQ 32 r)[i]).isSome=false):unL r=none:=
 kS (C0 h) (by simpa using h2)
theorem aM0 (h:aB2 r (aQ 32 r).length):unL r=some (wsT r (aQ 32 r).length):=by
 unfold aB2 at h;rw[E2]at h;unfold unL;rw[tB [] h];simp only[wsT,E2]
theorem aM1 (h: ∀r∈rows.take rows.length,(unL r).isSome=true):rows.mapM unL=some (lsT rows rows.length):=by
 rw[E2]at h;rw[tB [] h];simp only[lsT,E2]
variable {n:Nat}
theorem aV0 (h: ∀r∈rows,r.length<n): ∀l∈lsT rows rows.length,l.length<n+1:=by
 intro l hl;simp only[lsT,E2,L3]at hl;obtain⟨r,hr,rfl⟩:=hl;have h1:=h r hr;cases hu:unL r with
 |none=>simp
 |some ws=>
  have:=(qJ hu).2;have h2:=dP 32 r;simp only[E0];omega
@[simp] theorem cW2 (l:List W32)(i:Nat)(x:W32):CV.agg ((l.map w32).set i (w32 x))=ws (l.set i x):=by rw[←List.map_set];rfl
@[simp] theorem cW3 (l:List UInt8)(i:Nat)(x:UInt8):CV.agg ((l.map u8).set i (u8 x))=us (l.set i x):=by rw[←List.map_set];rfl
@[simp] theorem dA9 (b:List UInt8):wA b 0=wz 64:=rfl
@[simp] theorem dB0 (w:List W32):wB w 0=w:=rfl
def dB8 (s r:St)(j:Nat):List W32:=(s.l.zipWith (fun x y=>x+y) r.l).take j++s.l.drop j
@[simp] theorem cW4 (s r:St):dB8 s r 0=s.l:=rfl
section
variable {b:List UInt8}{j:Nat}(h0:64*j≤b.length)(h1:b.length<64*j+64)
include h0 h1
end
section
variable {b:List UInt8}{j:Nat}(h0:64*j≤b.length)(h1:b.length<64*j+64)
include h0 h1
end
@[simp] theorem dB1 (l:List UInt8):CV.agg (l.map u8)=us l:=rfl
def ob8 (s:St)(i:Nat):UInt8:=UInt8.ofNat ((gw s.l (i/4))>>>(24-8*(i%4))).toNat
def dB9 (s:St)(n:Nat):List UInt8:=itN (fun i l=>l.set i (ob8 s i)) n (uz 32)
@[simp] theorem cW5 (s:St):dB9 s 0=uz 32:=rfl
def dC0 (h:aB1):aH:=cS5 h.1
def dC1 (d:Dig):aH:=[115,104,97,50,53,54,58]++cS5 d.1
theorem eK (b:UInt8):iX [CV.int .u8 b.toNat]=some [b]:=bytesC_map [b]
def numW (n:Int):aH:=Lib.itoa n
theorem bY9 {n:Int}(h: -9223372036854775808≤n∧n≤9223372036854775807):(numW n).length≤21:=Lib.itoa_length_le n h.1 h.2
theorem bQ1 :numW 0=[48]:=by unfold numW Lib.itoa;rw[A7 (by omega)];simp[Lib.decDigits]
theorem tN {n:Int}(h:0≤n):numW n=Lib.decDigits n.natAbs:=by unfold numW Lib.itoa;rw[A7 (by omega)];congr 1;omega
theorem aV1 {n:Int}(h:n<0):numW n=45::Lib.decDigits n.natAbs:=by unfold numW Lib.itoa;rw[B6 h]
theorem bZ0 {v:Nat}(h:v≠0):Lib.decDigits v=(if v/10=0 then []else Lib.decDigits (v/10))++[UInt8.ofNat (48+v%10)]:=by
 by_cases h1:v<10
 · rw[Lib.decDigits,EG h1,B6 (by omega),show v%10=v by omega];rfl
 · rw[Lib.decDigits,dif_neg h1,A7 (by omega)]
theorem aM2 {n:Int}(h:n<0)(h1: -9223372036854775808≤n):IntKind.u64.wrap (-(IntKind.u64.wrap n))=(n.natAbs:Int):=by
 have e:IntKind.u64.wrap n=n+18446744073709551616:=by
  have:IntKind.u64.wrap n=n%18446744073709551616:=by simp[IntKind.wrap,IntKind.bits,IntKind.signed]
  rw[this];omega
 rw[e];have: ∀m:Int,IntKind.u64.wrap m=m%18446744073709551616:=fun m=>by simp[IntKind.wrap,IntKind.bits,IntKind.signed]
 rw[this];omega
theorem bI7 {n:Int}(h:0≤n)(h1:n≤9223372036854775807):IntKind.u64.wrap n=(n.natAbs:Int):=by
 have:IntKind.u64.wrap n=n%18446744073709551616:=by simp[IntKind.wrap,IntKind.bits,IntKind.signed]
 rw[this];omega
theorem zG (v:Nat):IntKind.u8.wrap (IntKind.u64.wrap (48+Int.tmod (v:Int) 10))=((UInt8.ofNat (48+v%10)).toNat:Int):=by
 have h1:Int.tmod (v:Int) 10=((v%10:Nat):Int):=rfl;have h2:v%10<10:=Nat.mod_lt _ (by omega);rw[h1];generalize v%10=r at h2;rw[IntWalk.u64_in _ (by omega),P8 _ (by omega),BD,Nat.mod_eq_of_lt (by omega)];omega
theorem cK4 {v:Nat}(h:v<18446744073709551616):IntKind.u64.wrap (Int.tdiv (v:Int) 10)=((v/10:Nat):Int):=by
 rw[show Int.tdiv (v:Int) 10=((v/10:Nat):Int)from rfl,IntWalk.u64_in _ (by omega)]
theorem bZ1 {u:Nat}(h:u<18446744073709551616):(Lib.decDigits u).length≤20:=by rw[Lib.decDigits_length];exact Lib.nDigits_le20 u h
inductive Av where
 |i (n:Int)
 |l (n:Int)
 |h (x:aB1)
 |d (x:Dig)
 |s (w:aH)
def Av.w :Av→aH
 | .i n=>numW n
 | .l n=>numW n
 | .h x=>dC0 x
 | .d x=>dC1 x
 | .s w=>w
def Av.ok :Av→Prop
 | .i n=> -9223372036854775808≤n∧n≤9223372036854775807
 | .l n=> -9223372036854775808≤n∧n≤9223372036854775807
 |_=>True
def cK5 (c:UInt8):Nat:=if 48≤c.toNat∧c.toNat≤57 then c.toNat-48 else if 97≤c.toNat∧c.toNat≤102 then c.toNat-87 else 16
def hX (s:aH)(i:Nat):UInt8:=s.getD (2*i) 0
def hY (s:aH)(i:Nat):UInt8:=s.getD (2*i+1) 0
def hB (s:aH)(i:Nat):UInt8:=UInt8.ofNat (16*cK5 (hX s i)+cK5 (hY s i))
def hOk (s:aH)(i:Nat):Bool:=decide (cK5 (hX s i)<16)&&decide (cK5 (hY s i)<16)
def pB (s:aH)(n:Nat):Option (List UInt8):=if s.length=2*n∧(List.range n).all (hOk s)=true then some ((List.range n).map (hB s))else none
def UhSt (s:aH)(n i:Nat)(l:List UInt8):Prop:=l.length=n∧i≤n∧l.take i=(List.range i).map (hB s)∧ ∀j,j<i→hOk s j=true
theorem UhSt.init (s:aH){l:List UInt8}(h:l.length=n):UhSt s n 0 l:=⟨h,F9 _,by simp,fun j hj=>by omega⟩
theorem UhSt.next {l:List UInt8}(h:UhSt s n i l)(hi:i<n)(hk:hOk s i=true):UhSt s n (i+1) (l.set i (hB s i)):=by
 obtain⟨h1,h2,h3,h4⟩:=h;refine⟨by simpa using h1,hi,?_,fun j hj=>?_⟩
 · rw[B3 (by rw[M6];omega),List.getElem_set_self,List.take_set_of_le (F2 _),h3,AB,C5];rfl
 ·
  rcases H0 j i with h'|h'
  · exact h4 j h'
  ·
   have:j=i:=by omega
   rw[this];exact hk
theorem UhSt.fin {l:List UInt8}(h:UhSt s n n l)(hs:s.length=2*n):pB s n=some l:=by
 obtain⟨h1,h2,h3,h4⟩:=h;unfold pB;rw[B6 ⟨hs,by rw[H6];intro j hj;exact h4 j (Q3.1 hj)⟩,←h3,E6 (by omega)]
theorem UhSt.bad {l:List UInt8}(_:UhSt s n i l)(hi:i<n)(hk:hOk s i=false):pB s n=none:=by
 unfold pB;rw[A7];rintro⟨_,h⟩;have:=H6.1 h i (Q3.2 hi);rw[hk]at this;cases this
theorem rE {l:List UInt8}(h:pB s n=some l):l.length=n:=by
 unfold pB at h;split at h
 · cases h;simp
 · cases h
def cY5 (s p:aH):Bool:=decide (p.length≤s.length)&&(s.take p.length==p)
def cY6 (s:aH):Option aB1:=match h:pB s 16 with|some l=>some ⟨l,rE h⟩|none=>none
def dC2 :aH:=[115,104,97,50,53,54,58]
def dC3 (s:aH):Option Dig:=if cY5 s dC2 then match h:pB (s.drop 7) 32 with|some l=>some ⟨l,rE h⟩|none=>none else none
def wd (l:List aH)(i:Nat):aH:=l.getD i []
theorem cH {l:List aH}(h:i<l.length):nth (l.map CV.str) i= .str (wd l i):=by
 rw[aV h,wd,C7,B5 h];rfl
def bZ2 (l:List aH)(x:Rt):Option Rt:=
 if l.length=3 then match bP (wd l 2)with|some n=>some {x with q:=x.q++[⟨wd l 1,n⟩]}|none=>none else none
def cY7 (l:List aH)(x:Rt):Option Rt:=
 if l.length<6 then none else match bP (wd l 1),cY6 (wd l 2),bP (wd l 4),bP (wd l 5)with
  |some h,some r,some a,some b=>some {x with k:=x.k++[⟨⟨h,r⟩,wd l 3,l.drop 6,a,b⟩]}
  |_,_,_,_=>none
def cY8 (l:List aH)(x:Rt):Option Rt:=
 if l.length=3 then match dC3 (wd l 1),bP (wd l 2)with|some d,some t=>some {x with x:=x.x++[⟨d,t⟩]}|_,_=>none else none
end Go.Pl
namespace Go.Hl
open Go Go.RowKit Go.Sort Go.Proofs
end Go.Hl
namespace Go.Pl
open Go Go.Hl
def rMid (r:Rt):Prop:=(r.q.length≤12∧ ∀q∈r.q,q.r.length≤300)∧(r.k.length≤32∧ ∀k∈r.k,k.o.length≤300∧k.rs.length≤30∧ ∀w∈k.rs,w.length≤300)∧r.x.length≤65
theorem rMid.sz {r:Rt}(h:rMid r):rSz r:=by
 obtain⟨⟨h1,h2⟩,⟨h3,h4⟩,h5⟩:=h;refine⟨⟨by omega,fun q hq=>by have:=h2 q hq;omega⟩,⟨by omega,fun k hk=>?_⟩,by omega⟩;obtain⟨k1,k2,k3⟩:=h4 k hk;exact⟨by omega,by omega,fun w hw=>by have:=k3 w hw;omega⟩
def bD2 (j:Nat):aH:=([[113,117,111,116,97],[107,101,121],[114,101,118,111,107,101,100]]:List aH).getD j []
def bQ2 (j:Nat)(l:List aH)(x:Rt):Option Rt:=if j=0 then bZ2 l x else if j=1 then cY7 l x else cY8 l x
def aV2 (j:Nat):List (List aH)→Rt→Option (List (List aH)×Rt)
 |[],x=>some ([],x)
 |l::ls,x=>if wd l 0=bD2 j then match bQ2 j l x with|some y=>aV2 j ls y|none=>none else some (l::ls,x)
def vD :Nat→Nat→List (List aH)→Rt→Option (List (List aH)×Rt)
 |0,_,ls,x=>some (ls,x)
 |n+1,j,ls,x=>match aV2 j ls x with|some (ls',y)=>vD n (j+1) ls' y|none=>none
section
variable {l0:List aH}{ls:List (List aH)}{x:Rt}
end
variable {x:Rt}{ls:List (List aH)}{j:Nat}
theorem bZ3 {l:List aH}{y:Rt}(h:wd l 0=bD2 j)(hy:bQ2 j l x=some y):aV2 j (l::ls) x=aV2 j ls y:=by
 rw[aV2,B6 h,hy]
theorem bQ3 {l:List aH}(h:wd l 0≠bD2 j):aV2 j (l::ls) x=some (l::ls,x):=by
 rw[aV2,A7 h]
variable {n:Nat}
theorem bZ4 {l:List aH}{y:Rt}(h:wd l 0=bD2 j)(hy:bQ2 j l x=some y):vD (n+1) j (l::ls) x=vD (n+1) j ls y:=by grind[vD,bZ3]
theorem bQ4 {l:List aH}(h:wd l 0≠bD2 j):vD (n+1) j (l::ls) x=vD n (j+1) (l::ls) x:=by
 simp only[vD,bQ3 h]
theorem bZ5 :vD (n+1) j [] x=vD n (j+1) [] x:=by
 simp only[vD,aV2]
def wOk (l:List aH):Prop:=l≠[]∧l.length≤120∧ ∀w∈l,w.length≤32768
variable {l:List aH}
theorem wOk.wd (h:wOk l)(i:Nat):(wd l i).length≤32768:=by
 unfold Pl.wd;rw[C7];rcases H0 i l.length with h'|h'
 · rw[B5 h'];exact h.2.2 _ (C0 h')
 grind
def rRead (m:Nat)(x:Rt):Prop:=x.q.length+x.k.length+x.x.length≤m∧(∀q∈x.q,q.r.length≤32768)∧ ∀k∈x.k,k.o.length≤32768∧k.rs.length≤120∧ ∀w∈k.rs,w.length≤32768
variable {m:Nat}
theorem bQ5 {y:Rt}(hl:wOk l)(h:bQ2 j l x=some y)(hx:rRead m x):rRead (m+1) y:=by
 obtain⟨h1,h2,h3⟩:=hx;unfold bQ2 at h;split at h
 ·
  unfold bZ2 at h;split at h
  ·
   split at h
   ·
    cases h;refine⟨by grind,fun q hq=>?_,h3⟩;rcases F4.1 hq with hq|hq
    · grind
    · simp only[G0]at hq;subst hq;exact hl.wd 1
   grind
  grind
 ·
  split at h
  ·
   unfold cY7 at h;split at h
   · cases h
   ·
    split at h
    ·
     cases h;refine⟨by grind,h2,fun k hk=>?_⟩;rcases F4.1 hk with hk|hk
     · exact h3 k hk
     · simp only[G0]at hk;subst hk;exact⟨hl.wd 3,by show(l.drop 6).length≤120;rw[B8];have:=hl.2.1;omega,fun w hw=>hl.2.2 w (G1 hw)⟩
    grind
  ·
   unfold cY8 at h;split at h
   ·
    split at h
    · cases h;exact⟨by grind,h2,h3⟩
    grind
   grind
theorem rRead.sz (h:rRead m x)(hm:m≤100000):rSz x:=by
 obtain⟨h1,h2,h3⟩:=h;refine⟨⟨by omega,fun q hq=>by grind⟩,⟨by omega,fun k hk=>?_⟩,by omega⟩;obtain⟨k1,k2,k3⟩:=h3 k hk;exact⟨by omega,by omega,fun w hw=>by grind⟩
def RtSt (ls0:List (List aH))(x0:Rt)(j:Nat)(rest:List (List aH))(x:Rt):Prop:=
 j≤3∧vD 3 0 ls0 x0=vD (3-j) j rest x∧(∀l∈rest,wOk l)∧rest.length≤ls0.length∧rRead (ls0.length-rest.length) x
section
variable {ls0 rest:List (List aH)}{x0 x:Rt}{j:Nat}{l:List aH}
theorem RtSt.init (h: ∀l∈ls0,wOk l)(hx:rRead 0 x0):RtSt ls0 x0 0 ls0 x0:=⟨by omega,rfl,h,F2 _,by grind⟩
theorem RtSt.hit {y:Rt}(h:RtSt ls0 x0 j (l::rest) x)(hj:j<3)(hw:wd l 0=bD2 j)(hy:bQ2 j l x=some y):RtSt ls0 x0 j rest y:=by
 obtain⟨h1,h2,h3,h4,h5⟩:=h;obtain⟨n,hn⟩: ∃n,3-j=n+1:=⟨2-j,by omega⟩;simp only[B0]at h4 h5;refine⟨h1,by rw[h2,hn,bZ4 hw hy],fun l hl=>h3 l (F5 _ hl),by omega,?_⟩;have:=bQ5 (h3 l F6) hy h5;grind
theorem RtSt.next (h:RtSt ls0 x0 j rest x)(hj:j<3)(hw: ∀l ls,rest=l::ls→wd l 0≠bD2 j):RtSt ls0 x0 (j+1) rest x:=by
 obtain⟨h1,h2,h3,h4,h5⟩:=h;obtain⟨n,hn⟩: ∃n,3-j=n+1:=⟨2-j,by omega⟩;have hn2:3-(j+1)=n:=by omega
 refine⟨by omega,?_,h3,h4,h5⟩;rw[h2,hn,hn2];cases rest with
 |nil=>exact bZ5
 |cons l ls=>exact bQ4 (hw l ls rfl)
theorem RtSt.fin (h:RtSt ls0 x0 3 rest x):vD 3 0 ls0 x0=some (rest,x):=by rw[h.2.1];rfl
end
variable {b:aH}
theorem aM3 : ∀l∈decO b,wOk l:=by
 intro l hl;unfold decO at hl;split at hl
 ·
  cases hv:gX b with
  |none=>grind
  |some ls=>
   rw[hv]at hl;simp only[E0]at hl;unfold gX at hv;split at hv
   · grind
   ·
    split at hv
    ·
     have key: ∀{rs:List aH} {ls:List (List aH)},rs.mapM unR=some ls→ ∀l∈ls,okL l=true:=by
      intro rs;induction rs with
      |nil=>grind
      |cons r rs ih=>
       intro ls h l hl;rw[M9]at h;cases hr:unR r with
       |none=>grind
       |some a=>
        rw[hr]at h;cases hm:rs.mapM unR with
        |none=>grind
        |some m=>
         rw[hm]at h;cases h;rcases E9.1 hl with rfl|hl
         ·
          unfold unR at hr;split at hr
          ·
           split at hr
           · rename_i hk;cases hr;exact hk
           · cases hr
          · cases hr
         · exact ih hm l hl
     exact(gR l).1 (key hv l hl)
    grind
 grind
theorem aV3 :(decO b).length≤1000:=by
 unfold decO;split
 · grind[dZ,gX]
 · simp
theorem gO :uP=1099511627776:=rfl
theorem zH : ∀(a b:aH) (n m:Nat),eJ a n=some m→eJ (a++b) n=eJ b m
 |[],b,n,m,h=>by simp only[eJ,D6]at h;subst h;rfl
 |c::a,b,n,m,h=>by
  simp only[J4,eJ]at h⊢;split at h
  · rename_i hc;rw[B6 hc];exact zH a b _ _ h
  · cases h
theorem bI8 {k:Nat}(h:k<10):kL (UInt8.ofNat (48+k))=true∧(UInt8.ofNat (48+k)).toNat-48=k:=by
 have e:(UInt8.ofNat (48+k)).toNat=48+k:=by simp;omega
 rw[kL,e];exact⟨by simp;omega,by omega⟩
theorem bD3 (u:Nat):eJ (Lib.decDigits u) 0=some u:=by
 induction u using Nat.strongRecOn with
 |ind u ih=>
  rw[Lib.decDigits];split
  · rename_i h;obtain⟨h1,h2⟩:=bI8 h;simp only[eJ,h1,F7,h2];simp
  · rw[zH _ _ 0 (u/10) (ih _ (by omega))];obtain⟨h1,h2⟩:=bI8 (k:=u%10) (by omega);simp only[eJ,h1,F7,h2];congr 1;omega
theorem bI9 : ∀(k u:Nat),u<10^(k+1)→(Lib.decDigits u).length≤k+1
 |0,u,h=>by rw[Lib.decDigits,EG (by omega)];simp
 |k+1,u,h=>by
  rw[Lib.decDigits];split
  · simp
  · have:=bI9 k (u/10) (by rw[Nat.pow_succ]at h;omega);simp only[A3,M2];omega
theorem bZ6 {u:Nat}(h:1≤u): ∃c l,Lib.decDigits u=c::l∧c≠48:=by
 induction u using Nat.strongRecOn with
 |ind u ih=>
  rw[Lib.decDigits];split
  · rename_i hu;refine⟨_,_,rfl,fun hc=>?_⟩;have:=congrArg UInt8.toNat hc;simp at this;omega
  · obtain⟨c,l,h1,h2⟩:=ih (u/10) (by omega) (by omega);exact⟨c,l++[UInt8.ofNat (48+u%10)],by rw[h1];rfl,h2⟩
theorem mX {n:Int}(h0:0≤n)(h1:n≤1099511627776):bP (numW n)=some n:=by
 rw[tN h0];have hd:=bD3 n.natAbs;have hl:=bI9 12 n.natAbs (by omega);have hb:fK (Lib.decDigits n.natAbs)=false:=by
  unfold fK;by_cases hz:n.natAbs=0
  · rw[hz,Lib.decDigits_one (by omega)];simp
  ·
   obtain⟨c,l,h2,h3⟩:=bZ6 (u:=n.natAbs) (by omega);rw[h2]at hl⊢;have e:((c::l).getD 0 0==(48:UInt8))=false:=by simpa using h3
   rw[e,C9,E1,K7];exact⟨by simp,M7 (by omega)⟩
 rw[aL6 hb hd (by omega)];congr 1;omega
theorem bJ0 (h:gL ls=0):dZ (lK ls)=0∧decO (lK ls)=ls:=by
 rw[qD h];unfold gL at h;split at h
 · cases h
 ·
  rename_i h1;split at h
  · rename_i l hl;have:=List.find?_some hl;simp only[J8]at this;exact absurd h (bH3 this)
  ·
   rename_i hn;split at h
   · cases h
   ·
    rename_i h2;have hok: ∀l∈ls,okL l=true:=fun l hl=>by
     have:=BC.1 hn l hl;simpa using this
    have hv:=bQ0 hok;have hE:dZ (eO ls)=0:=by unfold dZ;rw[A7 h2,hv];simp only;rw[A7 h1]
    exact⟨hE,by unfold decO;rw[B6 hE,hv];rfl⟩
end Go.Pl
