/- Part of a proof: walks of functions of the program, by contracts, and the rules they use. By an AI agent. -/
import Derived.Test.YthedbjfipmkpiaaGreatDoorPl11c
import Derived.Test.YthedbjfipmkpiaaGreatDoorHdUp
import Derived.Test.YthedbjfipmkpiaaGreatDoorHdSb
import Derived.Test.YthedbjfipmkpiaaGreatDoorHlIt
import Derived.Test.YthedbjfipmkpiaaGreatDoorPl18e
import Derived.Test.YthedbjfipmkpiaaGreatDoorHdU6
set_option linter.unusedSimpArgs false
set_option linter.unusedVariables false
set_option linter.defProp false
namespace Go.Proofs.YthedbjfipmkpiaaGreatDoor
open Go Go.Hl Go.Pl
set_option maxRecDepth 10000
set_option maxHeartbeats 16000000
theorem cG3 (v:CV):nth [v] 0=v:=rfl
theorem yI (c:UInt8):(u8 c).denil=u8 c:=rfl
theorem denilL_u8 : ∀bs:List UInt8,CV.denilL (bs.map u8)=bs.map u8
 |[]=>rfl
 |b::bs=>by simp only[List.map_cons,CV.denilL,denilL_u8 bs];rfl
theorem cG4 (l:List UInt8)(c:UInt8):cE Tryz.prog 166 [.slc (l.map u8),u8 c] (fun v=>v= .int .i64 (gG l c)):=
 cN5 (f:=166) (fn:=Tryz.f166) Tryz.func166 (by kernel_rfl) (by kernel_rfl) (by kernel_rfl) (by kernel_rfl) l c
theorem bY1 (l:List UInt8)(c:UInt8):cE Tryz.prog 169 [.str l,u8 c] (fun v=>v= .int .i64 (gG l c)):=
 cF0 (f:=169) (fn:=Tryz.f169) Tryz.func169 (by kernel_rfl) (by kernel_rfl) (by kernel_rfl) (by kernel_rfl) l c
theorem cO6 (l:List UInt8)(c:UInt8):cE Tryz.prog 144 [.slc (l.map u8),u8 c] (fun v=>v= .int .i64 (gG l c)):=by
 refine FW Tryz.func144 ?_;have F:=rI;refine RF ?_;refine aC fun K hK=>Rg ?_;have F:=aI rI (aI @denilL_u8 @yI);iterate 2 refine SF ?_
 refine HS rfl rfl fun K' hK'=>T6 ?_;refine C2 (cG4 l c) ?_;rintro u rfl;refine AX (hK' _ _ ?_);clear hK' K';refine SF ?_;simp only[sE,↓reduceIte,simprocAttr,rI];refine AX (hK _ _ _ ?_);clear hK K;refine aH ?_;simp only[bS,Tryz.results144,bP,bR,bN,↓sP,sA,tyS,simprocAttr,rI];exact aJ [] (.int .i64 (gG l c)) rfl rfl
theorem cO7 (l:List UInt8)(c:UInt8):cE Tryz.prog 150 [.str l,u8 c] (fun v=>v= .int .i64 (gG l c)):=by
 refine FW Tryz.func150 ?_;have F:=rI;refine RF ?_;refine aC fun K hK=>Rg ?_;have F:=aI rI (aI @denilL_u8 @yI);iterate 2 refine SF ?_
 refine HS rfl rfl fun K' hK'=>T6 ?_;refine C2 (bY1 l c) ?_;rintro u rfl;refine AX (hK' _ _ ?_);clear hK' K';refine SF ?_;simp only[sE,↓reduceIte,simprocAttr,rI];refine AX (hK _ _ _ ?_);clear hK K;refine aH ?_;simp only[bS,Tryz.results150,bP,bR,bN,↓sP,sA,tyS,simprocAttr,rI];exact aJ [] (.int .i64 (gG l c)) rfl rfl
theorem sG (l:List UInt8)(c:UInt8):cE Tryz.prog 124 [.str l,u8 c] (fun v=>v= .int .i64 (gG l c)):=by
 refine FW Tryz.func124 ?_;have F:=rI;refine RF ?_;refine aC fun K hK=>Rg ?_;have F:=aI rI (aI @denilL_u8 @yI);iterate 2 refine SF ?_
 refine HS rfl rfl fun K' hK'=>T6 ?_;refine C2 (cO7 l c) ?_;rintro u rfl;refine AX (hK' _ _ ?_);clear hK' K';refine SF ?_;simp only[sE,↓reduceIte,simprocAttr,rI];refine AX (hK _ _ _ ?_);clear hK K;refine aH ?_;simp only[bS,Tryz.results124,bP,bR,bN,↓sP,sA,tyS,simprocAttr,rI];exact aJ [] (.int .i64 (gG l c)) rfl rfl
theorem aE9 (l:List UInt8)(c:UInt8):cE Tryz.prog 122 [.slc (l.map u8),.slc [u8 c]] (fun v=>v= .int .i64 (gG l c)):=by
 refine FW Tryz.func122 ?_;have F:=rI;refine RF ?_;refine RF ?_;refine aC fun K hK=>?_;refine aN ?_;refine RF ?_;refine aK (b:=(1:Int)==0) rfl (fun hb=>?_) (fun hb=>?_)
 · exact absurd hb (by decide)
 refine RF ?_;refine aK (b:=(1:Int)==1) rfl (fun hb=>?_) (fun hb=>?_)
 ·
  refine aC fun K hK=>Rg ?_;have F:=aI rI (aI @u8.eq_1 (aI @cG3 @denilL_u8));iterate 4 refine SF ?_
  refine HS rfl rfl fun K' hK'=>T6 ?_;refine C2 (cO6 l c) ?_;rintro u rfl;refine AX (hK' _ _ ?_);clear hK' K';refine SF ?_;simp only[sE,↓reduceIte,simprocAttr,rI];refine AX (hK _ _ _ ?_);clear hK K;refine aH ?_;simp only[bS,Tryz.results122,bP,bR,bN,↓sP,sA,tyS,simprocAttr,rI];exact aJ [] (.int .i64 (gG l c)) rfl rfl
 exact absurd hb (by decide)
theorem cG5 (l:List UInt8)(c:UInt8)(hl:l.length<2^40):bS8 Tryz.prog 92 [.slc (l.map u8),.slc [u8 c]] (fun x y f=> ∃(li re:List UInt8) (fd:Bool),x= .slc (li.map u8)∧y= .slc (re.map u8)∧f= .bool fd∧CutR l c li re fd):=by
 refine FW Tryz.func92 ?_;have F:=rI;refine RF ?_;refine aC fun K hK=>?_;refine aC fun K hK=>Rg ?_;have F:=aI rI @denilL_u8;iterate 2 refine SF ?_
 refine HS rfl rfl fun K' hK'=>T6 ?_;refine C2 (aE9 l c) ?_;rintro u rfl;refine AX (hK' _ _ ?_);clear hK' K';refine SF ?_;simp only[sE,↓reduceIte,simprocAttr,rI];refine AX (hK _ _ _ ?_);clear hK K;have F:=rI;refine RF ?_;refine aK (b:=decide ((0:Int)≤gG l c)) rfl (fun hb=>?_) (fun hb=>?_)
 ·
  have hn: ¬gG l c<0:=by simp at hb;omega
  obtain⟨i,hi,hil,hsp⟩:=jF hn;have hi':=hi;rw[hi];refine aC fun K hK=>QR ?_;have F:=aI rI (aI @Int.natCast_nonneg (aI @Int.ofNat_le (aI @Int.sub_zero (aI @Nat.sub_zero (aI @List.drop_zero.{0} (aI @jC (aI @denilL_u8 (aI @List.length_map.{0,0} (show IntKind.i64.wrap ((i:Int)+1)=((i+1:Nat):Int)from by rw[IntWalk.i64_in _ (by omega)];rfl)))))))));iterate 12 refine SF ?_
  simp only[sE,↓reduceIte,simprocAttr,rI];refine AX (hK _ _ _ ?_);clear hK K;refine aH ?_;simp only[bS,Tryz.results92,bP,bR,bN,↓sP,sA,tyS,simprocAttr,rI];refine xJ [] (.slc ((l.take i).map u8)) (.slc ((l.drop (i+1)).map u8)) (.bool true) ?_ ⟨_,_,_,rfl,rfl,rfl,.inr ⟨rfl,i,hi,hil,rfl,rfl⟩⟩;simp[HV.close,HV.closeL,HV.norm,HV.toC,HV.toCL,CV.denil,denilL_u8];exact⟨by rw[←List.map_take,denilL_u8],by rw[←List.map_drop,←List.map_take,denilL_u8,List.take_of_length_le (by simp)]⟩
 have hn:gG l c<0:=by simp at hb;omega
 refine aM ?_;refine TQ rI ?_;refine AX (hK _ _ _ ?_);clear hK K;refine aC fun K hK=>Rg ?_;iterate 4 refine SF ?_
 simp only[sE,↓reduceIte,simprocAttr,rI];refine AX (hK _ _ _ ?_);clear hK K;refine aH ?_;simp only[bS,Tryz.results92,bP,bR,bN,↓sP,sA,tyS,simprocAttr,rI];refine xJ [] (.slc (l.map u8)) (.slc []) (.bool false) ?_ ⟨l,[],false,rfl,rfl,rfl,.inl ⟨rfl,hn,rfl,rfl⟩⟩;simp[HV.close,HV.closeL,HV.norm,HV.toC,HV.toCL,CV.denil,denilL_u8]
theorem cG6 (l:List UInt8)(c:UInt8):bD0 Tryz.prog 123 148 [.slc (l.map u8),.slc [u8 c],.int .i64 0] [(52,.slc [u8 c]),(52,.slc (l.map u8)),(3,.int .i64 0)]:=by
 refine FW Tryz.func123 ?_;refine aC fun K hK=>Rg ?_;have F:=rI;iterate 4 refine SF ?_
 simp only[sE,↓reduceIte,simprocAttr,rI];refine AX (hK _ _ _ ?_);clear hK K;refine RF ?_;refine aH ?_;simp only[bS,Tryz.results123,bP,bR,bN,↓sP,sA,tyS,simprocAttr,rI];refine tS (gf:=148) (bs:=[(52,.slc [u8 c]),(52,.slc (l.map u8)),(3,.int .i64 0)]) (ids:=[4,0,8]) rfl (by simp) (by decide) ?_ ?_
 ·
  intro j x hx
  match j,hx with
  |0,hx=>cases hx;rfl
  |1,hx=>cases hx;rfl
  |2,hx=>cases hx;rfl
 intro x hx;simp only[List.mem_cons,List.not_mem_nil,or_false]at hx;rcases hx with rfl|rfl|rfl
 · rfl
 · exact congrArg CV.slc (denilL_u8 l)
 rfl
theorem bM7 (l:List UInt8)(c:UInt8):bD0 Tryz.prog 93 148 [.slc (l.map u8),.slc [u8 c]] [(52,.slc [u8 c]),(52,.slc (l.map u8)),(3,.int .i64 0)]:=by
 refine FW Tryz.func93 ?_;have F:=rI;refine RF ?_;refine aC fun K hK=>Rg ?_;iterate 2 refine S0 ?_ (e:=fun _ h_=>by simp only[sH,↓sP,sA,tyS,simprocAttr,rI,denilL_u8,mZ,iL,List.range',List.map_cons,List.map_nil];exact AX h_)
 refine HS rfl rfl fun K' hK'=>?_;simp only[sH,↓sP,sA,tyS,simprocAttr,rI,denilL_u8,mZ,iL,List.range',List.map_cons,List.map_nil];refine tR (args:=[_,_,_]) (cG6 l c) (by simp) ⟨rfl,rfl,rfl,rfl⟩ ?_;refine AX (hK' _ _ ?_);clear hK' K';refine S0 ?_ (e:=fun _ h_=>by simp only[sH,↓sP,sA,tyS,simprocAttr,rI,denilL_u8,mZ,iL,List.range',List.map_cons,List.map_nil];exact AX h_);simp only[sE,↓reduceIte,simprocAttr,rI];refine AX (hK _ _ _ ?_);clear hK K;refine aH ?_;simp only[bS,Tryz.results93,bP,bR,bN,↓sP,sA,tyS,simprocAttr,rI];refine tS (gf:=148) (bs:=[(52,.slc [u8 c]),(52,.slc (l.map u8)),(3,.int .i64 0)]) (ids:=[12,13,14]) rfl (by simp) (by decide) ?_ ?_
 ·
  intro j x hx
  match j,hx with
  |0,hx=>cases hx;rfl
  |1,hx=>cases hx;rfl
  |2,hx=>cases hx;rfl
 intro x hx;simp only[List.mem_cons,List.not_mem_nil,or_false]at hx;rcases hx with rfl|rfl|rfl
 · rfl
 · exact congrArg CV.slc (denilL_u8 l)
 rfl
theorem cL4 {α:Type}(l:List (List UInt8))(j:Nat)(p:List UInt8)(r:List (List UInt8))(h:l.drop j=p::r): ∃hj:j<(l.map fun p=>[CV.slc (p.map u8)]).length,(l.map fun p=>[CV.slc (p.map u8)])[j]=[CV.slc (p.map u8)]∧l.drop (j+1)=r:=by
 have hj:j<l.length:=by
  rcases Nat.lt_or_ge j l.length with h'|h'
  · exact h'
  rw[List.drop_eq_nil_of_le h']at h;cases h
 have h1:=List.drop_eq_getElem_cons hj;rw[h1]at h;cases h;exact⟨by simpa using hj,by simp,rfl⟩
theorem bA0 (l:List UInt8)(c:UInt8)(hl:l.length<2^40):aJ0 Tryz.prog 148 [(52,.slc [u8 c]),(52,.slc (l.map u8)),(3,.int .i64 0)] ((bB c l).map fun p=>[.slc (p.map u8)]):=by
 refine aC9 Tryz.func148 rfl (by kernel_rfl) (Nat.le_of_ble_eq_true rfl) rfl fun L J hS hY=>?_;have e0:kQ [(52,CV.slc [u8 c]),(52,.slc (l.map u8)),(3,.int .i64 0)]=fob [(0,.box 52 (.c (.slc [u8 c]))),(1,.box 52 (.c (.slc (l.map u8)))),(2,.box 3 (.c (.int .i64 0)))]:=by
  funext i
  match i with
  |0=>rfl
  |1=>rfl
  |2=>rfl
  |i+3=>simp[kQ,fob,upd]
 have e1:iL (List.range [((52:Nat),CV.slc [u8 c]),(52,.slc (l.map u8)),(3,.int .i64 0)].length)=[.ptr 0 0,.ptr 1 0,.ptr 2 0]:=rfl;rw[e0,e1];refine fV fun K hK=>?_;refine fV fun K1 hK1=>nW hS rfl (aE (by kernel_rfl) ?_);simp only[sR,simprocAttr];have F:=rI;iterate 3 refine SF ?_
 simp only[sE,↓reduceIte,simprocAttr,rI];refine hK1 _ _ _ _ _ ?_;clear hK1 K1;refine kI (b:=false) rfl (fun hb=>by cases hb) (fun _=>?_);refine nX ?_;simp only[sE,↓reduceIte,simprocAttr,rI];refine hK _ _ _ _ _ ?_;clear hK K;refine fV fun K hK=>?_;refine oV ?_;refine aP8 (α:={y:Nat×List UInt8//(bB c l).drop y.1=bB c y.2∧y.2.length≤l.length}) hS (fun y=>(fin [(0,.opq (.func (.yield L) #[] #[])),(1,.ptr 0 0),(2,.ptr 1 0),(3,.ptr 2 0)],fob [(0,.box 52 (.c (.slc [u8 c]))),(1,.box 52 (.c (.slc (y.1.2.map u8)))),(2,.box 3 (.c (.int .i64 0)))])) (fun y=>y.1.1) 100 (fun y=>y.1.2.length) ⟨(0,l),rfl,Nat.le_refl _⟩ rfl (fF) rfl ?_;rintro⟨⟨j,rest⟩,hsp,hle⟩;simp only at hsp hle;refine oV ?_;refine fV fun K1 hK1=>nW hS rfl (aE (by kernel_rfl) ?_);simp only[sR,simprocAttr];iterate 2 refine SF ?_
 have F:=aI rI @denilL_u8;refine HS rfl rfl fun K' hK'=>T6 ?_;refine C2 (aE9 rest c) ?_;rintro u rfl;refine AX (hK' _ _ ?_);clear hK' K';have F:=rI;refine SF ?_;simp only[sE,↓reduceIte,simprocAttr,rI];refine hK1 _ _ _ _ _ ?_;clear hK1 K1;refine fV fun K1 hK1=>?_;refine fV fun K2 hK2=>nW hS rfl (aE (by kernel_rfl) ?_);simp only[sR,simprocAttr];iterate 2 refine SF ?_
 simp only[sE,↓reduceIte,simprocAttr,rI];refine hK2 _ _ _ _ _ ?_;clear hK2 K2;refine kI (b:=decide (gG rest c<0)) rfl (fun hb=>?_) (fun hb=>?_)
 ·
  have hn:gG rest c<0:=by simpa using hb
  rw[rW hn]at hsp;obtain⟨hj,hx,hd⟩:=cL4 (α:=Nat) _ _ _ _ hsp;refine aP7 ?_;simp only[sE,↓reduceIte,simprocAttr,rI];clear hK1 K1;refine hK _ _ _ _ _ ?_;clear hK K;have htk:List.take rest.length (rest.map u8)=rest.map u8:=List.take_of_length_le (by simp);refine tQ (l:=L) 7 hS hY rfl (by kernel_rfl) (by decide) ?_;simp only[sR,List.range',simprocAttr];have F:=aI rI @List.length_map.{0,0};iterate 6 refine SF ?_
  refine S0 ?_ (e:=fun _ h_=>by simp only[sH,↓sP,sA,tyS,simprocAttr,rI,htk,List.length_map,↓hslice3.eq_def,Int.natCast_nonneg,jC,List.drop_zero,Nat.sub_zero,Int.le_refl,Int.toNat_zero];exact AX h_);rw[hlex];refine⟨_,_,_,hj,rfl,rfl,rfl,rfl,rfl,?_,?_,?_⟩
  · rw[hx];rfl
  · simp only[sR,List.range',simprocAttr];rw[hlex];refine⟨by simp,fun _=>?_⟩;have:=List.drop_eq_nil_iff.1 hd;simp only[List.length_map]at hj⊢;omega
  simp only[sR,List.range',simprocAttr];rw[hlex];exact⟨by simp,fun h=>by cases h⟩
 have hn: ¬gG rest c<0:=by simpa using hb
 obtain⟨k,hk,hkl,hsp2⟩:=jF hn;rw[hk];rw[hsp2]at hsp;obtain⟨hj,hx,hd⟩:=cL4 (α:=Nat) _ _ _ _ hsp;have hkm:min k rest.length=k:=by omega
 have ek:List.take k (rest.map u8)=(rest.take k).map u8:=List.map_take.symm;have htk:List.take k ((rest.take k).map u8)=(rest.take k).map u8:=List.take_of_length_le (by simp;omega);have hw1:IntKind.i64.wrap ((k:Int)+1)=((k+1:Nat):Int):=by rw[IntWalk.i64_in _ (by omega)];rfl
 have hkl1:k+1≤rest.length:=hkl;have edr:List.take (rest.length-(k+1)) (List.drop (k+1) (rest.map u8))=(rest.drop (k+1)).map u8:=by rw[List.map_drop,List.take_of_length_le (by simp)]
 refine nX ?_;simp only[sE,↓reduceIte,simprocAttr,rI];refine hK1 _ _ _ _ _ ?_;clear hK1 K1;refine fV fun K1 hK1=>nW hS rfl (aE (by kernel_rfl) ?_);simp only[sR,simprocAttr];iterate 6 refine S0 ?_ (e:=fun _ h_=>by simp only[sH,↓sP,sA,tyS,simprocAttr,rI,ek,List.length_map,Int.natCast_nonneg,jC,Int.add_zero,Int.ofNat_le,Nat.le_of_lt hkl,List.drop_zero,Nat.sub_zero,show IntKind.i64.wrap (k:Int)=(k:Int)from IntWalk.i64_in _ (by omega)];exact AX h_)
 simp only[sE,↓reduceIte,simprocAttr,rI];refine hK1 _ _ _ _ _ ?_;clear hK1 K1;refine fV fun K1 hK1=>?_;refine fV fun K2 hK2=>tQ (l:=L) 7 hS hY rfl (by kernel_rfl) (by decide) ?_;simp only[sR,List.range',simprocAttr];have F:=aI rI (aI @List.length_map.{0,0} (aI @List.length_take.{0} hkm));iterate 6 refine SF ?_
 refine S0 ?_ (e:=fun _ h_=>by simp only[sH,↓sP,sA,tyS,simprocAttr,rI,htk,List.length_map,List.length_take,hkm,↓hslice3.eq_def,Int.natCast_nonneg,jC,List.drop_zero,Nat.sub_zero,Int.le_refl,Int.toNat_zero];exact AX h_);rw[hlex];refine⟨_,_,_,hj,rfl,rfl,rfl,rfl,rfl,?_,?_,?_⟩
 · rw[hx];rfl
 ·
  simp only[sR,List.range',simprocAttr];have F:=rI;refine SF ?_;simp only[sE,↓reduceIte,simprocAttr,rI];refine hK2 _ _ _ _ _ ?_;clear hK2 K2;refine kI (b:=false) rfl (fun hb=>by cases hb) (fun _=>?_);refine nX ?_;simp only[sE,↓reduceIte,simprocAttr,rI];refine hK1 _ _ _ _ _ ?_;clear hK1 K1;refine nW hS rfl (aE (by kernel_rfl) ?_);simp only[sR,simprocAttr];have F:=aI rI (aI edr (aI hw1 (aI @List.length_map.{0,0} (aI @Int.natCast_nonneg (aI @jC (aI @Int.ofNat_le (aI hkl1 @denilL_u8)))))));iterate 7 refine SF ?_
  simp only[sE,↓reduceIte,simprocAttr,rI];refine⟨⟨(j+1,rest.drop (k+1)),hd,by simp;omega⟩,fF,trivial,rfl,?_⟩;show(rest.drop (k+1)).length<rest.length;simp;omega
 simp only[sR,List.range',simprocAttr];have F:=rI;refine SF ?_;simp only[sE,↓reduceIte,simprocAttr,rI];refine hK2 _ _ _ _ _ ?_;clear hK2 K2;refine kI (b:=true) rfl (fun _=>?_) (fun hb=>by cases hb);refine bC9 ?_;simp only[sE,↓reduceIte,simprocAttr,rI];exact⟨by simp,fun h=>by cases h⟩
theorem cO8 (s:aL)(hl:s.length<2^40):iJ Tryz.prog 94 [.str s] (fun u v=>u= .str ((unW s).getD [])∧v= .bool (unW s).isSome):=by
 refine FW Tryz.func94 ?_;refine R0 ?_;refine aC fun K hK=>?_;refine R0 ?_;refine aK (b:=s==[126]) rfl (fun hb=>?_) (fun hb=>?_)
 ·
  refine R0 ?_;refine aH (RT Tryz.results94 ?_);have hs:s=[126]:=by simpa using hb
  subst hs;exact bD [] (.str []) (.bool true) rfl ⟨rfl,rfl⟩
 refine aM ?_;refine T0 (hK _ _ _ ?_);clear hK K;have hne:s≠[126]:=by simpa using hb
 clear hb;refine R0 ?_;refine aC fun K hK=>?_;refine R0 ?_;refine aN ?_;refine jI 4 0 5 1 rfl rfl rfl rfl ?_;refine bH (α:={y:Nat×aL//UnSt s y.1 y.2}) (fun y=>(fin [(0,.c (.str s)),(4,.own 24 y.1.2.length),(5,.c (.int .i64 y.1.1))],fob [(24,.row 5 1 (y.1.2.map eY))])) 100 (fun y=>s.length-y.1.1) ⟨(0,[]),UnSt.init s⟩ (fF) ?_;rintro⟨⟨i,out⟩,hst⟩;simp only at hst;have hi:=hst.1;have ho:=hst.2.2.2;refine aC fun K hK=>?_;refine aC fun K hK=>Rg ?_;iterate 4 refine S0 ?_
 refine T2 (hK _ _ _ ?_);clear hK K;refine aK (b:=decide ((i:Int)<s.length)) rfl (fun hb=>?_) (fun hb=>?_)
 ·
  have hlt:i<s.length:=by simpa using hb
  clear hb;have hgd:s.getD i 0=s[i]:=by simp[hlt]
  refine aM ?_;refine T0 (hK _ _ _ ?_);clear hK K;refine aC fun K hK=>?_;refine aN ?_;refine aC fun K hK=>?_;refine aC fun K hK=>Rg ?_;iterate 3 refine S0 ?_ (e:=fun _ h_=>by simp only[sH,↓sP,sA,tyS,simprocAttr,Int.natCast_nonneg,Int.ofNat_lt,hlt,hgd];exact AX h_)
  refine HS rfl rfl fun K' hK'=>?_;simp only[sH,↓sP,sA,tyS,simprocAttr,Int.natCast_nonneg,Int.ofNat_lt,hlt,hgd];refine C1 (sF s[i]) ?_;rintro u rfl;refine AX (hK' _ _ ?_);clear hK' K';refine T2 (hK _ _ _ ?_);clear hK K;refine aK (b:=eJ s[i]) rfl (fun hb=>?_) (fun hb=>?_)
  ·
   refine aC fun K hK=>Rg ?_;iterate 7 refine S0 ?_ (e:=fun _ h_=>by simp only[sH,↓sP,sA,tyS,simprocAttr,Int.natCast_nonneg,Int.ofNat_lt,hlt,hgd,List.length_append,List.length_map];exact AX h_)
   refine T2 (hK _ _ _ ?_);clear hK K;refine aZ (T3 ?_);clear hK K;refine AX (hK _ _ _ ?_);clear hK K;refine aE (by kernel_rfl) ?_;refine TQ (jE i) ?_;refine⟨⟨(i+1,out++[s[i]]),hst.plain hlt hb⟩,aO (by omega) ?_ ?_,?_⟩
   · simp[aX,upd_at,fin_at,HV.men]
   · simp only[aY,List.map_append];exact⟨rfl,by omega,trivial,trivial⟩
   show s.length-(i+1)<s.length-i;omega
  refine aM ?_;refine T0 (hK _ _ _ ?_);clear hK K;refine aC fun K hK=>?_;have hp:eJ s[i]=false:=hb;clear hb;have hw1:IntKind.i64.wrap ((i:Int)+1)=((i+1:Nat):Int):=by rw[IntWalk.i64_in _ (by omega)];rfl
  have hw2:IntKind.i64.wrap ((i:Int)+2)=((i+2:Nat):Int):=by rw[IntWalk.i64_in _ (by omega)];rfl
  have hw3:IntKind.i64.wrap (((i+2:Nat):Int)+1)=((i+3:Nat):Int):=by rw[IntWalk.i64_in _ (by omega)];rfl
  refine aC fun K hK=>Rg ?_;iterate 5 refine S0 ?_ (e:=fun _ h_=>by simp only[sH,↓sP,sA,tyS,simprocAttr,Int.natCast_nonneg,Int.ofNat_lt,hlt,hgd,hw2];exact AX h_)
  refine aG 29 rfl (fun h9_29=>?_) (fun h9_29=>?_)
  ·
   iterate 6 refine S0 ?_ (e:=fun _ h_=>by simp only[sH,↓sP,sA,tyS,simprocAttr,Int.natCast_nonneg,Int.ofNat_lt,hlt,hgd,hw2,h9_29];exact AX h_)
   refine T2 (hK _ _ _ ?_);clear hK K;refine CT rfl ?_;refine R0 ?_;refine aH (RT Tryz.results94 ?_);have h37:s[i]≠37:=by rintro h;rw[h]at h9_29;simp at h9_29
   have hn:=nZ (hst.bad1 hlt hp (.inl h37)) hne;exact bD [] (.str []) (.bool false) rfl ⟨by rw[hn];rfl,by rw[hn];rfl⟩
  iterate 6 refine S0 ?_ (e:=fun _ h_=>by simp only[sH,↓sP,sA,tyS,simprocAttr,Int.natCast_nonneg,Int.ofNat_lt,hlt,hgd,hw2,h9_29];exact AX h_)
  refine aG 35 rfl (fun h9_35=>?_) (fun h9_35=>?_)
  ·
   simp only[h9_35];refine T2 (hK _ _ _ ?_);clear hK K;refine CT rfl ?_;refine R0 ?_;refine aH (RT Tryz.results94 ?_);have hi2:s.length≤i+2:=by simp at h9_35;omega
   have hn:=nZ (hst.bad1 hlt hp (.inr hi2)) hne;exact bD [] (.str []) (.bool false) rfl ⟨by rw[hn];rfl,by rw[hn];rfl⟩
  simp only[h9_35];refine T2 (hK _ _ _ ?_);clear hK K;refine CF rfl ?_;refine aM ?_;refine T0 (hK _ _ _ ?_);clear hK K;have h37:s[i]=37:=by
   simp only[bne_eq_false_iff_eq]at h9_29;exact UInt8.toNat_inj.1 (by show s[i].toNat=37;omega)
  have hi2:i+2<s.length:=by simp at h9_35;omega
  have hi1:i+1<s.length:=by omega
  have hg1:s.getD (i+1) 0=s[i+1]:=by simp[hi1]
  have hg2:s.getD (i+2) 0=s[i+2]:=by simp[hi2]
  refine aC fun K hK=>DW [(0,[],[]),(1,[],[]),(2,[],[]),(3,[],[]),(5,[],[]),(6,[],[]),(7,[],[]),(8,[],[]),(4,[],[5,6,7,8]),(9,[],[]),(10,[],[]),(11,[],[])] [0,0,2,7,15,0,0,64,224,511,1023,2047] ?_;have F:=aI @Int.natCast_nonneg (aI @Int.ofNat_lt (aI hw1 (aI hw2 (aI hg1 (aI hg2 (aI hi1 (aI hi2 (aI h9_29 h9_35))))))));iterate 8 refine WF ?_
  refine cJ (g:=none) rfl rfl fun K' hK'=>T6 ?_;refine C2 (sG cF2 s[i+1]) ?_;rintro u rfl;refine AX (hK' _ _ ?_);clear hK' K';refine cJ (g:=none) rfl rfl fun K' hK'=>T6 ?_;refine C2 (sG cF2 s[i+2]) ?_;rintro u rfl;refine AX (hK' _ _ ?_);clear hK' K';iterate 2 refine WF ?_
  refine T2 (hK _ _ _ ?_);clear hK K;refine aC fun K hK=>?_;by_cases hx:valH s[i+1]<16
  ·
   by_cases hy:valH s[i+2]<16
   ·
    rw[rX,rX,if_pos hx,if_pos hy];have hx0:decide (((valH s[i+1]:Nat):Int)<0)=false:=by simp
    have hy0:decide (((valH s[i+2]:Nat):Int)<0)=false:=by simp
    have e1:IntKind.i64.wrap (16*((valH s[i+1]:Nat):Int))=((16*valH s[i+1]:Nat):Int):=by rw[IntWalk.i64_in _ (by omega)];omega
    have e2:IntKind.i64.wrap (((16*valH s[i+1]:Nat):Int)+((valH s[i+2]:Nat):Int))=((16*valH s[i+1]+valH s[i+2]:Nat):Int):=by rw[IntWalk.i64_in _ (by omega)];omega
    have e3:IntKind.u8.wrap ((16*valH s[i+1]+valH s[i+2]:Nat):Int)=((byteH s[i+1] s[i+2]).toNat:Int):=by rw[IntWalk.u8_in _ (by omega),bK4 hx hy]
    refine aC fun K hK=>Rg ?_;have F:=aI hx0 (aI hy0 (aI e1 (aI e2 (aI e3 (aI h9_29 h9_35)))));iterate 12 refine SF ?_
    refine aF (g:=some (53,false)) rfl rfl fun K' hK'=>T6 ?_;refine C1 (sF (byteH s[i+1] s[i+2])) ?_;rintro u rfl;refine AX (hK' _ _ ?_);clear hK' K';refine SF ?_;refine T2 (hK _ _ _ ?_);clear hK K;refine aK (b:=eJ (byteH s[i+1] s[i+2])) rfl (fun hb=>?_) (fun hb=>?_)
    · refine R0 ?_;refine aH (RT Tryz.results94 ?_);have hn:=nZ (hst.bad2 hi2 h37 (by simp[okH,hx,hy,hb])) hne;exact bD [] (.str []) (.bool false) rfl ⟨by rw[hn];rfl,by rw[hn];rfl⟩
    refine aM ?_;refine T0 (hK _ _ _ ?_);clear hK K;refine aC fun K hK=>Rg ?_;have F:=aI @Int.natCast_nonneg (aI @List.length_append.{0} (aI @List.length_map.{0,0} (aI e1 (aI e2 (aI e3 (aI h9_29 h9_35))))));iterate 9 refine SF ?_
    refine T2 (hK _ _ _ ?_);clear hK K;refine aE (by kernel_rfl) ?_;refine TQ hw2 ?_;refine AX (hK _ _ _ ?_);clear hK K;refine aE (by kernel_rfl) ?_;refine TQ hw3 ?_;refine⟨⟨(i+3,out++[byteH s[i+1] s[i+2]]),hst.esc hi2 h37 (by simp[okH,hx,hy,hb])⟩,aO (by omega) ?_ ?_,?_⟩
    · simp[aX,upd_at,fin_at,HV.men]
    · simp only[aY,List.map_append];exact⟨rfl,by omega,trivial,trivial⟩
    show s.length-(i+3)<s.length-i;omega
   rw[rX,rX,if_pos hx,if_neg hy];have hx0:decide (((valH s[i+1]:Nat):Int)<0)=false:=by simp
   refine aC fun K hK=>Rg ?_;have F:=aI hx0 (aI h9_29 h9_35);iterate 14 refine SF ?_
   refine T2 (hK _ _ _ ?_);clear hK K;refine CT rfl ?_;refine R0 ?_;refine aH (RT Tryz.results94 ?_);have hn:=nZ (hst.bad2 hi2 h37 (by simp[okH,hx,hy])) hne;exact bD [] (.str []) (.bool false) rfl ⟨by rw[hn];rfl,by rw[hn];rfl⟩
  rw[rX,if_neg hx];refine aC fun K hK=>Rg ?_;have F:=aI h9_29 h9_35;iterate 14 refine SF ?_
  refine T2 (hK _ _ _ ?_);clear hK K;refine CT rfl ?_;refine R0 ?_;refine aH (RT Tryz.results94 ?_);have hn:=nZ (hst.bad2 hi2 h37 (by simp[okH,hx])) hne;exact bD [] (.str []) (.bool false) rfl ⟨by rw[hn];rfl,by rw[hn];rfl⟩
 refine aZ (T3 ?_);clear hK K;refine AX (hK _ _ _ ?_);clear hK K;have hei:i=s.length:=by simp at hb;omega
 have hfin:=hst.fin hei hne;refine fL [24] (bJ (fr2:=fin [(4,.c (.slc (out.map eY)))]) (ob2:=fob []) (nx2:=200) (aO (by omega) (by simp[aX,fS,fin_at,finA_at,upd_at,fob_at,HV.close,HV.closeL,CV.denil,CV.denilL,cP,HV.men,HV.menL,HV.norm,HV.toC,HV.toCL]) (by simp[aY,iH,fob_at,upd_at,none0_at,bO,HO.close,HV.close,HV.closeL,HO.men,HV.men,HV.menL,HV.norm,HV.toC,HV.toCL])) ?_);refine aC fun K hK=>Rg ?_;have F:=aI @bytesC_map @List.length_map.{0,0};iterate 7 refine SF ?_
 refine T2 (hK _ _ _ ?_);clear hK K;refine aH (RT Tryz.results94 ?_);refine bD [] (.str out) (.bool (decide (0<(out.length:Int)))) rfl ?_;rw[hfin];by_cases ho0:out=[]
 · subst ho0;simp
 have:0<out.length:=List.length_pos_iff.2 ho0;simp[ho0,this]
def lsC (l:List aL):CV:= .slc (l.map .str)
theorem bM8 (l:List aL):(lsC l).cells=1:=rfl
theorem uA (l:List aL):(lsC l).denil=lsC l:=by simp only[lsC,CV.denil,denilL_str]
theorem iZ (l:List (List aL)):CV.denilL (l.map lsC)=l.map lsC:=bZ uA l
theorem cO9 (b:aL)(hl:b.length<2^40):iJ Tryz.prog 61 [.slc (b.map u8)] (fun u v=>u= .slc ((mP b).map lsC)∧v= .int .i64 (kR b)):=by
 refine FW Tryz.func61 ?_;have F:=rI;refine RF ?_;refine bT3 ?_;refine aC fun K hK=>?_;have F:=aI rI @List.length_map.{0,0};refine RF ?_;refine aK (b:=decide ((262144:Int)<b.length)) rfl (fun hb=>?_) (fun hb=>?_)
 ·
  have F:=rI;refine RF ?_;refine aH ?_;simp only[bS,Tryz.results61,bP,bR,bN,↓sP,sA,tyS,simprocAttr,rI];have hE:kR b=3:=by unfold kR;rw[if_pos (by simp at hb;omega)]
  refine bD [] (.slc []) (.int .i64 3) ?_ ⟨by simp only[mP,hE];rfl,by rw[hE]⟩;simp[HV.close,HV.closeL,CV.denil,CV.denilL,HV.norm,HV.toC,HV.toCL]
 refine aM ?_;refine TQ rI ?_;refine AX (hK _ _ _ ?_);clear hK K;have hle:b.length≤262144:=by simp at hb;omega
 clear hb;have F:=rI;refine RF ?_;refine RF ?_;refine aC fun K hK=>?_;refine bR2 ?_;try simp only[↓sP,sA,tyS,simprocAttr,rI]
 refine AX (hK _ _ _ ?_);clear hK K;refine aC fun K hK=>?_;have key: ∀(ok:Bool) (ls:List (List aL)) fr ob nx,(ok=true→iW b=some ls)→(ok=false→iW b=none)→ls.length≤b.length→Fits 0 fr ob (fin [(4,.own 32 ls.length),(5,.ptr 24 0)]) (fob [(24,.box 4 (.c (.bool ok))),(32,.row 71 1 (ls.map lsC))]) 1000→K fr ob nx:=by
  intro ok ls fr ob nx h1 h2 h3 hf;refine hK _ _ _ (bJ hf ?_);clear hf hK K;refine aC fun K hK=>?_;cases ok
  ·
   refine aC fun K hK=>Rg ?_;have F:=aI rI @List.length_map.{0,0};iterate 7 refine SF ?_
   simp only[sE,↓reduceIte,simprocAttr,rI];refine AX (hK _ _ _ ?_);clear hK K;refine CT rfl ?_;have F:=rI;refine RF ?_;refine aH ?_;simp only[bS,Tryz.results61,bP,bR,bN,↓sP,sA,tyS,simprocAttr,rI];have hE:kR b=2:=by unfold kR;rw[if_neg (by omega),h2 rfl]
   refine bD [] (.slc []) (.int .i64 2) ?_ ⟨by simp only[mP,hE];rfl,by rw[hE]⟩;simp[HV.close,HV.closeL,CV.denil,CV.denilL,HV.norm,HV.toC,HV.toCL]
  refine aC fun K hK=>Rg ?_;have F:=aI rI @List.length_map.{0,0};iterate 7 refine SF ?_
  simp only[sE,↓reduceIte,simprocAttr,rI];refine AX (hK _ _ _ ?_);clear hK K;refine aK (b:=decide ((1000:Int)<ls.length)) rfl (fun hb=>?_) (fun hb=>?_)
  ·
   have F:=rI;refine RF ?_;refine aH ?_;simp only[bS,Tryz.results61,bP,bR,bN,↓sP,sA,tyS,simprocAttr,rI];have hE:kR b=2:=by unfold kR;rw[if_neg (by omega),h1 rfl];simp only;rw[if_pos (by simp at hb;omega)]
   refine bD [] (.slc []) (.int .i64 2) ?_ ⟨by simp only[mP,hE];rfl,by rw[hE]⟩;simp[HV.close,HV.closeL,CV.denil,CV.denilL,HV.norm,HV.toC,HV.toCL]
  refine aM ?_;refine TQ rI ?_;refine AX (hK _ _ _ ?_);clear hK K;have F:=rI;refine RF ?_;refine aH ?_;simp only[bS,Tryz.results61,bP,bR,bN,↓sP,sA,tyS,simprocAttr,rI];have hE:kR b=0:=by unfold kR;rw[if_neg (by omega),h1 rfl];simp only;rw[if_neg (by simp at hb;omega)]
  refine bD [32] (.slc (ls.map lsC)) (.int .i64 0) ?_ ⟨by simp only[mP,hE,h1 rfl];rfl,by rw[hE]⟩;simp[HV.close,fob_at,upd_at,HV.norm,HV.toC,HV.closeL,HV.toCL,CV.denil,iZ]
 refine aN ?_;refine jI 4 0 71 1 rfl rfl rfl rfl ?_;refine bH (α:={y:aL×List (List aL)//DecSt b y.1 y.2}) (fun y=>(fin [(0,.c (.slc (y.1.1.map u8))),(4,.own 32 y.1.2.length),(5,.ptr 24 0)],fob [(24,.box 4 (.c (.bool true))),(32,.row 71 1 (y.1.2.map lsC))])) 100 (fun y=>y.1.1.length) ⟨(b,[]),DecSt.init b⟩ (fF) ?_;rintro⟨⟨rest,ls⟩,hst⟩;simp only at hst;have hr1:=hst.2.1;have hr2:=hst.2.2;refine aC fun K hK=>?_;have F:=aI rI @List.length_map.{0,0};refine RF ?_;refine aK (b:=decide ((0:Int)<rest.length)) rfl (fun hb=>?_) (fun hb=>?_)
 ·
  refine aM ?_;refine TQ rI ?_;refine AX (hK _ _ _ ?_);clear hK K;refine aN ?_;have hne:rest≠[]:=by rintro rfl;simp at hb
  clear hb;refine aC fun K hK=>bY (by kernel_rfl) ?_;simp only[sR,simprocAttr];have F:=aI rI @denilL_u8;refine SGF ?_;refine cT (g:=none) 116 rfl rfl fun K' hK'=>?_;simp only[gP,jP,sH,↓sP,sA,tyS,simprocAttr,rI,denilL_u8];repeat refine AI ?_
  refine dA (by first|rfl|simp) ?_;try simp only[sH,↓sP,sA,tyS,simprocAttr,rI,denilL_u8]
  refine AX (hK' _ _ ?_);clear hK' K';refine aU (g:=none) rfl rfl fun K' hK'=>T6 ?_;refine aX7 (args:=[_,_]) (cG5 rest 10 (by omega)) ⟨rfl,rfl,rfl,rfl⟩ ?_;rintro u v x ⟨li,re,fd,rfl,rfl,rfl,hcut⟩;have hlt:=hcut.lt hne;refine AX (hK' _ _ ?_);clear hK' K';iterate 7 refine SGF ?_
  simp only[sE,↓reduceIte,simprocAttr,rI];refine AX (hK _ _ _ ?_);clear hK K;have F:=rI;refine RF ?_;refine aC fun K hK=>?_;refine aC fun K hK=>bY (by kernel_rfl) ?_;simp only[sR,simprocAttr];refine SG0 ?_ (e:=fun _ h_=>by simp only[sH,↓sP,sA,tyS,simprocAttr,rI,denilL_u8,mZ,iL,List.range',List.map_cons,List.map_nil];exact AX h_);refine cT (g:=none) 160 rfl rfl fun K' hK'=>?_;simp only[gP,jP,sH,↓sP,sA,tyS,simprocAttr,rI,denilL_u8,mZ,iL,List.range',List.map_cons,List.map_nil];repeat refine AI ?_
  refine dA (by first|rfl|simp) ?_;try simp only[sH,↓sP,sA,tyS,simprocAttr,rI,denilL_u8,mZ,iL,List.range',List.map_cons,List.map_nil]
  refine AX (hK' _ _ ?_);clear hK' K';refine aU (g:=none) rfl rfl fun K' hK'=>?_;simp only[sH,↓sP,sA,tyS,simprocAttr,rI,denilL_u8,mZ,iL,List.range',List.map_cons,List.map_nil];refine tR (args:=[_,_]) (bM7 li 32) (by simp) ⟨rfl,rfl,rfl,rfl⟩ ?_;refine AX (hK' _ _ ?_);clear hK' K';simp only[sE,↓reduceIte,simprocAttr,rI];refine AX (hK _ _ _ ?_);clear hK K;refine aN ?_;refine dX 152 0 9 1 rfl rfl rfl rfl ?_;refine aC8 (ids:=[164,165,166]) (fin [(0,.c (.slc (rest.map u8))),(4,.own 32 ls.length),(5,.ptr 24 0),(7,.c (.slc (re.map u8))),(8,.c (.bool fd)),(9,.ptr 152 0)]) (fun i=>fob [(24,.box 4 (.c (.bool true))),(32,.row 71 1 (ls.map lsC)),(152,.box 71 (.own 168 i)),(168,.row 9 1 ((wsT li i).map .str))]) 200 (fun i=>bU5 li i) (fun p hp=>by simp at hp) (bA0 li 32 (by omega)) rfl rfl (by decide) ?_ ?_ ?_ ?_ ?_ rfl rfl ?_ ?_
  ·
   intro j x hx
   match j,hx with
   |0,hx=>cases hx;rfl
   |1,hx=>cases hx;rfl
   |2,hx=>cases hx;rfl
  · exact aO (by omega) (by simp[aX,fin_at,finA_at,upd_at,HV.men,HV.menL,HV.norm,HV.toC,HV.toCL]) (by simp[aY,fob_at,upd_at,none0_at,bO,mZ,wsT,HO.men,HV.men,HV.menL,HV.norm,HV.toC,HV.toCL])
  · intro id hid;simp only[List.mem_cons,List.not_mem_nil,or_false]at hid;rcases hid with rfl|rfl|rfl<;>rfl
  · intro x hx;obtain⟨p,_,rfl⟩:=List.mem_map.1 hx;rfl
  · intro p hp;simp only[List.mem_cons,List.not_mem_nil,or_false]at hp;subst hp;exact Nat.le_of_ble_eq_true rfl
  ·
   intro i hi hΦ K hK;have hi':i<(bB 32 li).length:=by simpa using hi
   have hwl:=yB (r:=li) (Nat.le_of_lt hi');have hsl:=lI 32 li;obtain⟨p,hp⟩: ∃p,p=(bB 32 li)[i]:=⟨_,rfl⟩;have hpl:p.length≤li.length:=by rw[hp];exact xZ 32 li _ (List.getElem_mem hi')
   have hx:(List.map (fun p=>[CV.slc (List.map u8 p)]) (bB 32 li))[i]=[CV.slc (p.map u8)]:=by rw[List.getElem_map,hp]
   rw[hx];simp only[xO];have hbc:jY (p.map u8)=some p:=bytesC_map p;refine aE (by kernel_rfl) ?_;refine TQ rI ?_;refine AX (hK _ _ _ ?_);clear hK K;refine aN ?_;refine aC fun K hK=>Rg ?_;have F:=aI rI hbc;iterate 2 refine SF ?_
   refine HS rfl rfl fun K' hK'=>T6 ?_;refine D1 (cO8 p (by omega)) ?_;rintro u v ⟨rfl,rfl⟩;refine AX (hK' _ _ ?_);clear hK' K';iterate 5 refine SF ?_
   simp only[sE,↓reduceIte,simprocAttr,rI];refine AX (hK _ _ _ ?_);clear hK K;refine aC fun K hK=>?_;have F:=rI;refine RF ?_;refine aK (b:=!(unW p).isSome) rfl (fun hb=>?_) (fun hb=>?_)
   · refine RF ?_;refine aZ ?_;refine TQ rI ?_;clear hK K;clear hK K;exact key false ls _ _ _ (fun h=>by cases h) (fun _=>hst.bad hcut hne (bU7 hi' (by rw[←hp];simpa using hb))) (by omega) (fF)
   refine aM ?_;refine TQ rI ?_;refine AX (hK _ _ _ ?_);clear hK K;refine Rg ?_;have F:=aI rI (aI @List.length_append.{0} (aI @List.length_map.{0,0} hwl));iterate 5 refine SF ?_
   simp only[sE,↓reduceIte,simprocAttr,rI];refine⟨(show Fits 200 _ _ (fin []) _ 200 from aO (by omega) trivial ?_),bK5 hi' hΦ (by rw[←hp];simpa using hb)⟩;rw[bU6 hi',←hp];simp[aY,fob_at,upd_at,none0_at,bO,HO.men,HV.men,HV.menL,HV.norm,HV.toC,HV.toCL]
  intro hΦ;simp only[sE,↓reduceIte,simprocAttr,rI];rw[List.length_map]at hΦ⊢;have hwl:=yB (r:=li) (Nat.le_refl _);have hul:=cF3 hΦ;have hsl:=lI 32 li;obtain⟨ws,hws⟩: ∃ws,ws=wsT li (bB 32 li).length:=⟨_,rfl⟩;rw[←hws]at hul hwl;rw[←hws,←hwl];refine AX (hK _ _ _ ?_);clear hK K;refine aC fun K hK=>?_;cases fd
  ·
   refine fL [168] (bJ (fr2:=fin [(0,.c (.slc (rest.map u8))),(4,.own 32 ls.length),(5,.ptr 24 0),(7,.c (.slc (re.map u8))),(8,.c (.bool false)),(9,.ptr 152 0)]) (ob2:=fob [(24,.box 4 (.c (.bool true))),(32,.row 71 1 (ls.map lsC)),(152,.box 71 (.c (.slc (ws.map .str))))]) (nx2:=300) (aO (by omega) (by simp[aX,fS,fin_at,finA_at,upd_at,fob_at,HV.close,HV.closeL,CV.denil,CV.denilL,denilL_u8,HV.men,HV.menL,HV.norm,HV.toC,HV.toCL]) (by simp[aY,iH,fob_at,upd_at,none0_at,bO,HO.close,HV.close,HV.closeL,CV.denil,denilL_str,HO.men,HV.men,HV.menL,HV.norm,HV.toC,HV.toCL])) ?_);refine aC fun K hK=>Rg ?_;iterate 7 refine SF ?_
   simp only[sE,↓reduceIte,simprocAttr,rI];refine AX (hK _ _ _ ?_);clear hK K;refine CT rfl ?_;refine RF ?_;refine aZ ?_;refine TQ rI ?_;clear hK K;exact key false ls _ _ _ (fun h=>by cases h) (fun _=>hst.bad0 hcut hne) (by omega) (fF)
  refine fL [168] (bJ (fr2:=fin [(0,.c (.slc (rest.map u8))),(4,.own 32 ls.length),(5,.ptr 24 0),(7,.c (.slc (re.map u8))),(8,.c (.bool true)),(9,.ptr 152 0)]) (ob2:=fob [(24,.box 4 (.c (.bool true))),(32,.row 71 1 (ls.map lsC)),(152,.box 71 (.c (.slc (ws.map .str))))]) (nx2:=300) (aO (by omega) (by simp[aX,fS,fin_at,finA_at,upd_at,fob_at,HV.close,HV.closeL,CV.denil,CV.denilL,denilL_u8,HV.men,HV.menL,HV.norm,HV.toC,HV.toCL]) (by simp[aY,iH,fob_at,upd_at,none0_at,bO,HO.close,HV.close,HV.closeL,CV.denil,denilL_str,HO.men,HV.men,HV.menL,HV.norm,HV.toC,HV.toCL])) ?_);refine aC fun K hK=>Rg ?_;iterate 4 refine SF ?_
  refine aF (g:=some (44,false)) rfl rfl fun K' hK'=>T6 ?_;refine C1 (aR3 ws (by omega)) ?_;rintro u rfl;refine AX (hK' _ _ ?_);clear hK' K';iterate 2 refine SF ?_
  simp only[sE,↓reduceIte,simprocAttr,rI];refine AX (hK _ _ _ ?_);clear hK K;refine aK (b:=tT ws !=0) rfl (fun hb=>?_) (fun hb=>?_)
  · refine RF ?_;refine aZ ?_;refine TQ rI ?_;clear hK K;exact key false ls _ _ _ (fun h=>by cases h) (fun _=>hst.bad hcut hne (by rw[hul,if_neg];unfold okL;simpa using hb)) (by omega) (fF)
  refine aM ?_;refine TQ rI ?_;refine AX (hK _ _ _ ?_);clear hK K;refine Rg ?_;have F:=aI rI (aI @List.length_append.{0} @List.length_map.{0,0});iterate 7 refine SF ?_
  simp only[sE,↓reduceIte,simprocAttr,rI];have hok:okL ws=true:=by unfold okL;simpa using hb
  refine⟨⟨(re,ls++[ws]),hst.next hcut hne (by rw[hul,if_pos hok])⟩,aO (by omega) ?_ ?_,hlt.1⟩
  · simp[aX,upd_at,fin_at,HV.men]
  simp only[aY,List.map_append];exact⟨rfl,by omega,trivial,rfl,by omega,trivial,trivial⟩
 refine aZ ?_;refine TQ rI ?_;clear hK K;have hr0:rest=[]:=by simpa using hb
 subst hr0;exact key true ls _ _ _ (fun _=>hst.fin) (fun h=>by cases h) (by omega) (fF)
theorem cG7 (s:aL):iJ Tryz.prog 151 [.str s] (fun u v=>u= .int .i64 ((dQ s).getD 0)∧v= .bool (dQ s).isSome):=by
 refine FW Tryz.func151 ?_;refine R0 ?_;refine aC fun K hK=>?_;have key: ∀fr ob nx,jJ s=false→Fits 0 fr ob (fin [(0,.c (.str s))]) (fob []) 100→K fr ob nx:=by
  intro fr ob nx hbad hf;refine hK _ _ _ (bJ hf ?_);clear hf hK K;have hlen:s.length≤13:=by
   simp only[jJ,Bool.or_eq_false_iff,decide_eq_false_iff_not]at hbad;omega
  refine R0 ?_;refine aC fun K hK=>?_;refine R0 ?_;refine aN ?_;refine bH (α:={y:Nat×Nat//DgSt s y.1 y.2}) (fun y=>(fin [(0,.c (.str s)),(4,.c (.int .i64 y.1.2)),(5,.c (.int .i64 y.1.1))],fob [])) 200 (fun y=>s.length-y.1.1) ⟨(0,0),DgSt.init s⟩ (fF) ?_;rintro⟨⟨i,n⟩,hst⟩;simp only at hst;have hi:=hst.1;have hnl:=hst.lt hlen;refine aC fun K hK=>?_;refine aC fun K hK=>Rg ?_;iterate 4 refine S0 ?_
  refine T2 (hK _ _ _ ?_);clear hK K;refine aK (b:=decide ((i:Int)<s.length)) rfl (fun hb=>?_) (fun hb=>?_)
  ·
   have hlt:i<s.length:=by simpa using hb
   clear hb;have hgd:s.getD i 0=s[i]:=by simp[hlt]
   have hdi:=bU9 s[i];refine aM ?_;refine T0 (hK _ _ _ ?_);clear hK K;refine aC fun K hK=>?_;refine aN ?_;refine aC fun K hK=>?_;have key2: ∀fr ob nx,qC s[i]=true→Fits 0 fr ob (fin [(0,.c (.str s)),(4,.c (.int .i64 n)),(5,.c (.int .i64 i))]) (fob []) 300→K fr ob nx:=by
    intro fr ob nx hd hf;refine hK _ _ _ (bJ hf ?_);clear hf hK K;have hd2:48≤s[i].toNat∧s[i].toNat≤57:=by simpa[qC]using hd
    have e1:IntKind.i64.wrap (10*(n:Int))=((10*n:Nat):Int):=by rw[IntWalk.i64_in _ (by omega)];omega
    have e2:IntKind.u8.wrap ((s[i].toNat:Int)-48)=((s[i].toNat-48:Nat):Int):=by rw[IntWalk.u8_in _ (by omega)];omega
    have e3:IntKind.i64.wrap ((s[i].toNat-48:Nat):Int)=((s[i].toNat-48:Nat):Int):=by rw[IntWalk.i64_in _ (by omega)]
    have e4:IntKind.i64.wrap (((10*n:Nat):Int)+((s[i].toNat-48:Nat):Int))=((10*n+(s[i].toNat-48):Nat):Int):=by rw[IntWalk.i64_in _ (by omega)];omega
    refine Rg ?_;iterate 9 refine S0 ?_ (e:=fun _ h_=>by simp only[sH,↓sP,sA,tyS,simprocAttr,Int.natCast_nonneg,Int.ofNat_lt,hlt,hgd,e1,e2,e3,e4];exact AX h_)
    refine T2 (hK _ _ _ ?_);clear hK K;refine aE (by kernel_rfl) ?_;refine TQ (jE i) ?_;refine⟨⟨(i+1,10*n+(s[i].toNat-48)),hst.next hlt hd⟩,fF,?_⟩;show s.length-(i+1)<s.length-i;omega
   refine aC fun K hK=>Rg ?_;iterate 5 refine S0 ?_ (e:=fun _ h_=>by simp only[sH,↓sP,sA,tyS,simprocAttr,Int.natCast_nonneg,Int.ofNat_lt,hlt,hgd];exact AX h_)
   refine aG 33 rfl (fun h7_33=>?_) (fun h7_33=>?_)
   ·
    iterate 5 refine S0 ?_ (e:=fun _ h_=>by simp only[sH,↓sP,sA,tyS,simprocAttr,Int.natCast_nonneg,Int.ofNat_lt,hlt,hgd,h7_33];exact AX h_)
    refine T2 (hK _ _ _ ?_);clear hK K;refine CT rfl ?_;refine R0 ?_;refine aH (RT Tryz.results151 ?_);have hd:qC s[i]=false:=by simp only[qC,Bool.and_eq_false_iff,decide_eq_false_iff_not];simp at h7_33;omega
    have hn:=aD3 (hst.bad hlt hd);exact bD [] (.int .i64 0) (.bool false) rfl ⟨by rw[hn];rfl,by rw[hn];rfl⟩
   iterate 5 refine S0 ?_ (e:=fun _ h_=>by simp only[sH,↓sP,sA,tyS,simprocAttr,Int.natCast_nonneg,Int.ofNat_lt,hlt,hgd,h7_33];exact AX h_)
   refine aG 38 rfl (fun h7_38=>?_) (fun h7_38=>?_)
   ·
    simp only[h7_38];refine T2 (hK _ _ _ ?_);clear hK K;refine CT rfl ?_;refine R0 ?_;refine aH (RT Tryz.results151 ?_);have hd:qC s[i]=false:=by simp only[qC,Bool.and_eq_false_iff,decide_eq_false_iff_not];simp at h7_38;omega
    have hn:=aD3 (hst.bad hlt hd);exact bD [] (.int .i64 0) (.bool false) rfl ⟨by rw[hn];rfl,by rw[hn];rfl⟩
   simp only[h7_38];refine T2 (hK _ _ _ ?_);clear hK K;refine CF rfl ?_;refine aM (T3 ?_);exact key2 _ _ _ (by simp only[qC,Bool.and_eq_true,decide_eq_true_eq];simp at h7_33 h7_38;omega) (fF)
  refine aZ (T3 ?_);clear hK K;refine AX (hK _ _ _ ?_);clear hK K;refine aC fun K hK=>?_;have hfin:=hst.fin (by simp at hb;omega);clear hb;refine R0 ?_;refine aK (b:=decide ((1099511627776:Int)<(n:Int))) rfl (fun hb=>?_) (fun hb=>?_)
  · refine R0 ?_;refine aH (RT Tryz.results151 ?_);have hn:=bU8 hfin (by simp at hb;omega);exact bD [] (.int .i64 0) (.bool false) rfl ⟨by rw[hn];rfl,by rw[hn];rfl⟩
  refine aM ?_;refine T0 (hK _ _ _ ?_);clear hK K;refine R0 ?_;refine aH (RT Tryz.results151 ?_);have hn:=bE0 hbad hfin (by simp at hb;omega);exact bD [] (.int .i64 n) (.bool true) rfl ⟨by rw[hn];rfl,by rw[hn];rfl⟩
 refine aC fun K hK=>Rg ?_;iterate 4 refine S0 ?_
 refine aG 8 rfl (fun h1_8=>?_) (fun h1_8=>?_)
 ·
  have F:=h1_8;iterate 14 refine SF ?_
  refine T2 (hK _ _ _ ?_);clear hK K;refine CT rfl ?_;refine R0 ?_;refine aH (RT Tryz.results151 ?_);have hn:dQ s=none:=yC (by simp only[jJ,Bool.or_eq_true,decide_eq_true_eq];simp at h1_8;left;left;omega);exact bD [] (.int .i64 0) (.bool false) rfl ⟨by rw[hn];rfl,by rw[hn];rfl⟩
 have F:=h1_8;iterate 5 refine SF ?_
 refine aG 12 rfl (fun h1_12=>?_) (fun h1_12=>?_)
 ·
  have F:=aI h1_8 h1_12;iterate 9 refine SF ?_
  refine T2 (hK _ _ _ ?_);clear hK K;refine CT rfl ?_;refine R0 ?_;refine aH (RT Tryz.results151 ?_);have hn:dQ s=none:=yC (by simp only[jJ,Bool.or_eq_true,decide_eq_true_eq];simp at h1_12;left;right;omega);exact bD [] (.int .i64 0) (.bool false) rfl ⟨by rw[hn];rfl,by rw[hn];rfl⟩
 have F:=aI h1_8 h1_12;iterate 4 refine SF ?_
 refine aG 17 rfl (fun h1_17=>?_) (fun h1_17=>?_)
 ·
  have F:=aI h1_8 (aI h1_12 h1_17);refine SF ?_;refine aF (g:=some (18,true)) rfl rfl fun K' hK'=>T6 ?_;refine⟨by simp at h1_17;omega,?_⟩;refine AX (hK' _ _ ?_);clear hK' K';iterate 3 refine SF ?_
  refine aG 21 rfl (fun h1_21=>?_) (fun h1_21=>?_)
  ·
   simp only[h1_21];refine T2 (hK _ _ _ ?_);clear hK K;refine CT rfl ?_;refine R0 ?_;refine aH (RT Tryz.results151 ?_);have hn:dQ s=none:=yC (by
    simp only[jJ,Bool.or_eq_true,Bool.and_eq_true,decide_eq_true_eq,beq_iff_eq];right;refine⟨by simp at h1_17;omega,UInt8.toNat_inj.1 ?_⟩;simp only[beq_iff_eq]at h1_21;show(s.getD 0 0).toNat=48;omega)
   exact bD [] (.int .i64 0) (.bool false) rfl ⟨by rw[hn];rfl,by rw[hn];rfl⟩
  simp only[h1_21];refine T2 (hK _ _ _ ?_);clear hK K;refine CF rfl ?_;refine aM (T3 ?_);refine key _ _ _ ?_ (fF);simp only[jJ,Bool.or_eq_false_iff,Bool.and_eq_false_iff,decide_eq_false_iff_not,beq_eq_false_iff_ne,ne_eq];simp only[decide_eq_false_iff_not,decide_eq_true_eq]at h1_8 h1_12;refine⟨⟨by omega,by omega⟩,?_⟩;first
   |(right;intro h0;rw[h0]at h1_21;simp at h1_21)
   |(left;simp at h1_17;omega)
 have F:=aI h1_8 (aI h1_12 h1_17);iterate 5 refine SF ?_
 refine T2 (hK _ _ _ ?_);clear hK K;refine CF rfl ?_;refine aM (T3 ?_);refine key _ _ _ ?_ (fF);simp only[jJ,Bool.or_eq_false_iff,Bool.and_eq_false_iff,decide_eq_false_iff_not,beq_eq_false_iff_ne,ne_eq];simp only[decide_eq_false_iff_not,decide_eq_true_eq]at h1_8 h1_12;refine⟨⟨by omega,by omega⟩,?_⟩;first
  |(right;intro h0;rw[h0]at h1_21;simp at h1_21)
  |(left;simp at h1_17;omega)
end Go.Proofs.YthedbjfipmkpiaaGreatDoor
namespace Go.Hl
open Go Go.Pl
section
variable {P:Program}{n k:Nat}{Q:eF}{fr:Fr}{ob:Ob}{nx:Nat}
end
def cL5 (P:Program)(f:FuncId)(args:List CV)(n:Nat)(T:TypeId)(l:List UInt8)(R:CV→List UInt8→Prop):Prop:=
 HFn P f (args.map .c++[.osl 0 n 0 1 n]) 1 (fob [(0,.box T (.c (.agg (l.map u8))))]) (fun r ob'=> ∃u l',r= .c u∧ob'=fob [(0,.box T (.c (.agg (l'.map u8))))]∧R u l')
theorem yJ (args:List CV)(n:Nat)(T:TypeId)(v:CV):LocOk 1 (args.map .c++[.osl 0 n 0 1 n]) (fob [(0,.box T (.c v))]):=by
 refine⟨fun j h=>?_,fun id o h=>?_,HV.menL_append.2 ⟨HV.menL_c,by simp[HV.menL,HV.men]⟩⟩
 ·
  have:j=0:=by omega
  subst this;exact⟨_,rfl⟩
 ·
  simp only[fob_at,fob_nil]at h;split at h
  · rename_i e;subst e;cases h;exact⟨by omega,by simp[HO.men,HV.men]⟩
  · cases h
variable {R:CV→List UInt8→Prop}{T:TypeId}{ob:Ob}
theorem bM9 {P:Program}{av:List Nat}{f:FuncId}{nid id:Nat}{K:HV→Ob→Prop}{args:List CV}{n:Nat}{l:List UInt8}(h:cL5 P f args n T l R)(hid:ob id=some (.box T (.c (.agg (l.map u8)))))(hav:id∉av)(hfree:Free4 ob nid)
  (hK: ∀u l',R u l'→K (.c u) (upd ob id (some (.box T (.c (.agg (l'.map u8))))))):HCall P av f (args.map .c++[.osl id n 0 1 n]) ob nid K:=by
 have h0:sub [id] nid 0=id:=rfl;have hra: ∀(m:Nat→Nat) (a:List CV) (b:List HV),HV.renL m (a.map .c++b)=a.map .c++HV.renL m b:=by
  intro m a b;induction a with
  |nil=>rfl
  |cons x a ih=>simp only[List.map_cons,List.cons_append,HV.renL,HV.ren,ih]
 refine⟨[id],_,_,_,h,yJ args n T _,⟨by simp,by simpa using hav⟩,by rw[hra];simp only[HV.renL,HV.ren,h0],fun j o hj=>?_,fun r lob' hR _=>?_⟩
 ·
  simp only[fob_at,fob_nil]at hj;split at hj
  · rename_i e;subst e;cases hj;simpa[HO.ren,HV.ren]using hid
  · cases hj
 ·
  obtain⟨u,l',rfl,rfl,hR⟩:=hR;have e2:bX ob [id] nid (fob [(0,.box T (.c (.agg (l'.map u8))))])=upd ob id (some (.box T (.c (.agg (l'.map u8))))):=by
   funext i;by_cases e:i=id
   · subst e;rw[aT];simp only[bX,List.findIdx?_cons,beq_self_eq_true,if_true,fob_at,Option.map_some,HO.ren,HV.ren]
   ·
    have e':(id==i)=false:=by simp;exact fun h=>e h.symm
    rw[aW _ _ e];simp only[bX,List.findIdx?_cons,e',List.findIdx?_nil,Option.map_none];simp only[Bool.false_eq_true,if_false];split
    ·
     rename_i hr;have h2:[id].length+(i-nid)≠0:=by simp
     rw[fob_at,if_neg h2,fob_nil];exact(hfree.all i hr.1 hr.2).symm
    · rfl
  rw[e2];exact hK u l' hR
theorem oW {l':List UInt8}{r:HV}(u:CV)(hr:(r.close ob []).norm= .c u)(ho:ob 0=some (.box T (.c (.agg (l'.map u8)))))(hR:R u l'):
  iR 1 r ob (fun r ob'=> ∃u l',r= .c u∧ob'=fob [(0,.box T (.c (.agg (l'.map u8))))]∧R u l'):=by
 refine⟨[],id,.c u,_,⟨u,l',rfl,rfl,hR⟩,hr,fun _ _=>rfl,fun _ _ _ _ h=>h,by simp[HV.men],fun j o h=>?_⟩;simp only[fob_at,fob_nil]at h;split at h
 · rename_i e;subst e;cases h;refine⟨by omega,by simp[HO.men,HV.men],by simp,_,ho,?_⟩;have hd:(CV.agg (l'.map u8)).denil= .agg (l'.map u8):=bV6 l';simp only[HO.ren,HV.ren,HV.close,hd,HV.norm,HV.toC]
 · cases h
end Go.Hl
namespace Go.Proofs.YthedbjfipmkpiaaGreatDoor
open Go Go.Hl Go.Pl
set_option maxRecDepth 10000
set_option maxHeartbeats 16000000
theorem cG8 (s p:aL):cE Tryz.prog 170 [.str s,.str p] (fun v=>v= .bool (jH s p)):=by
 refine FW Tryz.func170 ?_;refine R0 ?_;refine aC fun K hK=>Rg ?_;have F:=aI @Int.natCast_nonneg (aI @Int.ofNat_le (aI @List.drop_zero.{0} @Nat.sub_zero));iterate 6 refine SF ?_
 refine aG 9 rfl (fun h1_9=>?_) (fun h1_9=>?_)
 ·
  have F:=aI @Int.natCast_nonneg (aI @Int.ofNat_le (aI @List.drop_zero.{0} (aI @Nat.sub_zero h1_9)));iterate 3 refine SF ?_
  refine aF (g:=some (10,true)) rfl rfl fun K' hK'=>T6 ?_;refine⟨by simp at h1_9;omega,?_⟩;refine AX (hK' _ _ ?_);clear hK' K';iterate 4 refine SF ?_
  refine T2 (hK _ _ _ ?_);clear hK K;refine aH (RT Tryz.results170 ?_);have hle:p.length≤s.length:=by simp at h1_9;omega
  exact aJ [] (.bool (s.take p.length==p)) rfl (by unfold jH;rw[show decide (p.length≤s.length)=true from by simpa using hle];rfl)
 have F:=aI @Int.natCast_nonneg (aI @Int.ofNat_le (aI @List.drop_zero.{0} (aI @Nat.sub_zero h1_9)));iterate 8 refine SF ?_
 refine T2 (hK _ _ _ ?_);clear hK K;refine aH (RT Tryz.results170 ?_);have hle: ¬p.length≤s.length:=by simp at h1_9;omega
 exact aJ [] (.bool false) rfl (by unfold jH;rw[show decide (p.length≤s.length)=false from by simpa using hle];rfl)
theorem cG9 (s p:aL):iJ Tryz.prog 152 [.str s,.str p] (fun u v=>u= .str (if jH s p then s.drop p.length else s)∧v= .bool (jH s p)):=by
 refine FW Tryz.func152 ?_;refine R0 ?_;refine aC fun K hK=>?_;refine aC fun K hK=>Rg ?_;iterate 2 refine S0 ?_
 refine HS rfl rfl fun K' hK'=>T5 ?_;refine C2 (cG8 s p) ?_;rintro u rfl;refine AX (hK' _ _ ?_);clear hK' K';refine S0 ?_;refine T2 (hK _ _ _ ?_);clear hK K;refine aK (b:=!(jH s p)) rfl (fun hb=>?_) (fun hb=>?_)
 ·
  refine R0 ?_;refine aH (RT Tryz.results152 ?_);have hp:jH s p=false:=by simpa using hb
  exact bD [] (.str s) (.bool false) rfl ⟨by rw[hp];rfl,by rw[hp]⟩
 refine aM ?_;refine T0 (hK _ _ _ ?_);clear hK K;have hp:jH s p=true:=by simpa using hb
 have hle:p.length≤s.length:=by
  unfold jH at hp;simp only[Bool.and_eq_true,decide_eq_true_eq]at hp;exact hp.1
 have htd:List.take (s.length-p.length) (List.drop p.length s)=List.drop p.length s:=List.take_of_length_le (by simp);refine aC fun K hK=>Rg ?_;have F:=aI @Int.natCast_nonneg (aI @Int.ofNat_le (aI hle htd));iterate 6 refine SF ?_
 refine T2 (hK _ _ _ ?_);clear hK K;refine aH (RT Tryz.results152 ?_);exact bD [] (.str (s.drop p.length)) (.bool true) rfl ⟨by rw[hp];rfl,by rw[hp]⟩
theorem bY2 (s p:aL):iJ Tryz.prog 126 [.str s,.str p] (fun u v=>u= .str (if jH s p then s.drop p.length else s)∧v= .bool (jH s p)):=by
 refine FW Tryz.func126 ?_;refine R0 ?_;refine aC fun K hK=>Rg ?_;iterate 2 refine S0 ?_
 refine HS rfl rfl fun K' hK'=>T5 ?_;refine D2 (cG9 s p) ?_;rintro u v ⟨rfl,rfl⟩;refine AX (hK' _ _ ?_);clear hK' K';iterate 4 refine S0 ?_
 refine T2 (hK _ _ _ ?_);clear hK K;refine aH (RT Tryz.results126 ?_);exact bD [] _ _ rfl ⟨rfl,rfl⟩
theorem bY3 (s:aL)(n:Nat)(T:TypeId)(l0:List UInt8)(h0:l0.length=n)(hn1:1<n)(hn2:n<1000)(hs:s.length<2^40):
  cL5 Tryz.prog 127 [.str s] n T l0 (fun u l'=>u= .bool (fK s n).isSome∧l'.length=n∧ ∀w,fK s n=some w→l'=w):=by
 refine bI Tryz.func127 rfl (by kernel_rfl) (yJ [_] _ _ _) (Nat.le_of_ble_eq_true rfl) ?_;refine R0 ?_;refine aC fun K hK=>?_;have hw2:IntKind.i64.wrap (2*(n:Int))=((2*n:Nat):Int):=by rw[IntWalk.i64_in _ (by omega)];omega
 have hln:(List.take n (l0.map u8)).length=n:=by simp[h0]
 refine aC fun K hK=>Rg ?_;have F:=aI h0 (aI @bV9 (aI @List.length_map.{0,0} (aI @Nat.zero_le (aI @Nat.le_refl (aI @List.drop_zero.{0} (aI @Nat.sub_zero (aI hln hw2)))))));iterate 6 refine SF ?_
 refine T2 (hK _ _ _ ?_);clear hK K;refine aK (b:=(s.length:Int) !=((2*n:Nat):Int)) rfl (fun hb=>?_) (fun hb=>?_)
 · refine R0 ?_;refine aH (RT Tryz.results127 ?_);have hv:fK s n=none:=aZ2 (by simp at hb;omega);exact oW (.bool false) rfl rfl ⟨by rw[hv];rfl,h0,fun w hw=>by rw[hv]at hw;cases hw⟩
 refine aM ?_;refine T0 (hK _ _ _ ?_);clear hK K;refine aC fun K hK=>?_;have hlen:s.length=2*n:=by simp at hb;omega
 clear hb;have F:=aI h0 (aI @bV9 (aI @List.length_map.{0,0} (aI @Nat.zero_le (aI @Nat.le_refl (aI @List.drop_zero.{0} (aI @Nat.sub_zero hln))))));refine RF ?_;refine aN ?_;refine bH (α:={y:Nat×List UInt8//UhSt s n y.1 y.2}) (fun y=>(fin [(0,.c (.str s)),(1,.osl 0 n 0 1 n),(15,.c (.int .i64 n)),(16,.c (.int .i64 y.1.1))],fob [(0,.box T (.c (.agg (y.1.2.map u8))))])) 100 (fun y=>n-y.1.1) ⟨(0,l0),UhSt.init s h0⟩ (fF) ?_;rintro⟨⟨i,l⟩,hst⟩;simp only at hst;have hi:=hst.2.1;have hll:=hst.1;refine R0 ?_;refine aC fun K hK=>?_;refine aK (b:=decide ((i:Int)<(n:Int))) rfl (fun hb=>?_) (fun hb=>?_)
 ·
  have hlt:i<n:=by simp at hb;omega
  clear hb;have hv2:IntKind.i64.wrap (2*(i:Int))=((2*i:Nat):Int):=by rw[IntWalk.i64_in _ (by omega)];omega
  have hv3:IntKind.i64.wrap (((2*i:Nat):Int)+1)=((2*i+1:Nat):Int):=by rw[IntWalk.i64_in _ (by omega)];rfl
  have hgx:s.getD (2*i) 0=hX s i:=rfl;have hgy:s.getD (2*i+1) 0=hY s i:=rfl;have hl1:2*i<s.length:=by omega
  have hl2:2*i+1<s.length:=by omega
  refine aM ?_;refine T0 (hK _ _ _ ?_);clear hK K;refine aC fun K hK=>?_;refine aN ?_;refine R0 ?_;refine aC fun K hK=>DW [(0,[],[]),(1,[],[]),(2,[],[]),(3,[],[]),(5,[],[]),(6,[],[]),(7,[],[]),(8,[],[]),(9,[],[]),(4,[],[5,6,7,8,9]),(10,[],[]),(11,[],[]),(12,[],[])] [0,0,2,7,15,0,0,64,192,480,1023,2047,4095] ?_;have F:=aI @Int.natCast_nonneg (aI @Int.ofNat_lt (aI hv2 (aI hv3 (aI hgx (aI hgy (aI hl1 hl2))))));iterate 9 refine WF ?_
  refine cJ (g:=none) rfl rfl fun K' hK'=>T6 ?_;refine C2 (sG bE1 (hX s i)) ?_;rintro u rfl;refine AX (hK' _ _ ?_);clear hK' K';refine cJ (g:=none) rfl rfl fun K' hK'=>T6 ?_;refine C2 (sG bE1 (hY s i)) ?_;rintro u rfl;refine AX (hK' _ _ ?_);clear hK' K';iterate 2 refine WF ?_
  refine T2 (hK _ _ _ ?_);clear hK K;refine aC fun K hK=>?_;by_cases hx:valL (hX s i)<16
  ·
   by_cases hy:valL (hY s i)<16
   ·
    rw[oC,oC,if_pos hx,if_pos hy];have hx0:decide (((valL (hX s i):Nat):Int)<0)=false:=by simp
    have hy0:decide (((valL (hY s i):Nat):Int)<0)=false:=by simp
    have e1:IntKind.i64.wrap (16*((valL (hX s i):Nat):Int))=((16*valL (hX s i):Nat):Int):=by rw[IntWalk.i64_in _ (by omega)];omega
    have e2:IntKind.i64.wrap (((16*valL (hX s i):Nat):Int)+((valL (hY s i):Nat):Int))=((16*valL (hX s i)+valL (hY s i):Nat):Int):=by rw[IntWalk.i64_in _ (by omega)];omega
    have e3:IntKind.u8.wrap ((16*valL (hX s i)+valL (hY s i):Nat):Int)=((hB s i).toNat:Int):=by rw[IntWalk.u8_in _ (by omega),cN7 hx hy]
    have hil:i<l.length:=by omega
    have hl1':l.length≠1:=by omega
    refine aC fun K hK=>Rg ?_;have F:=aI hx0 hy0;iterate 6 refine SF ?_
    refine T2 (hK _ _ _ ?_);clear hK K;refine CF rfl ?_;refine aM ?_;refine T0 (hK _ _ _ ?_);clear hK K;refine Rg ?_;iterate 9 refine S0 ?_ (e:=fun _ h_=>by simp only[sH,↓sP,sA,tyS,simprocAttr,e1,e2,e3,Int.natCast_nonneg,Int.ofNat_lt,Nat.le_refl,Nat.sub_zero,Nat.zero_add,Nat.mul_one,hlt,tX,bL5,hil,hl1',and_false,aX1];exact AX h_)
    refine T2 (hK _ _ _ ?_);clear hK K;refine aE (by kernel_rfl) ?_;refine TQ (jE i) ?_;refine⟨⟨(i+1,l.set i (hB s i)),hst.next hlt (by simp[hOk,hx,hy])⟩,fF,?_⟩;show n-(i+1)<n-i;omega
   rw[oC,oC,if_pos hx,if_neg hy];have hx0:decide (((valL (hX s i):Nat):Int)<0)=false:=by simp
   refine aC fun K hK=>Rg ?_;have F:=hx0;iterate 6 refine SF ?_
   refine T2 (hK _ _ _ ?_);clear hK K;refine CT rfl ?_;refine R0 ?_;refine aH (RT Tryz.results127 ?_);have hv:=hst.bad hlt (by simp[hOk,hx,hy]);exact oW (.bool false) rfl rfl ⟨by rw[hv];rfl,hll,fun w hw=>by rw[hv]at hw;cases hw⟩
  rw[oC,if_neg hx];refine aC fun K hK=>Rg ?_;iterate 6 refine S0 ?_
  refine T2 (hK _ _ _ ?_);clear hK K;refine CT rfl ?_;refine R0 ?_;refine aH (RT Tryz.results127 ?_);have hv:=hst.bad hlt (by simp[hOk,hx]);exact oW (.bool false) rfl rfl ⟨by rw[hv];rfl,hll,fun w hw=>by rw[hv]at hw;cases hw⟩
 refine aZ (T3 ?_);clear hK K;refine AX (hK _ _ _ ?_);clear hK K;refine R0 ?_;refine aH (RT Tryz.results127 ?_);have hin:i=n:=by simp at hb;omega
 subst hin;have hv:=hst.fin hlen;exact oW (.bool true) rfl rfl ⟨by rw[hv];rfl,hll,fun w hw=>by rw[hv]at hw;cases hw;rfl⟩
theorem oX (s:aL)(hs:s.length<2^40):iJ Tryz.prog 97 [.str s] (fun u v=>u=dg ((gL s).getD zdg)∧v= .bool (gL s).isSome):=by
 refine FW Tryz.func97 ?_;refine R0 ?_;refine R0 ?_;refine aC fun K hK=>Rg ?_;refine S0 ?_;refine HS rfl rfl fun K' hK'=>T5 ?_;refine D2 (bY2 s shaW) ?_;rintro u v ⟨rfl,rfl⟩;refine AX (hK' _ _ ?_);clear hK' K';iterate 5 refine S0 ?_
 refine T2 (hK _ _ _ ?_);clear hK K;refine aC fun K hK=>?_;by_cases hp:jH s shaW=true
 ·
  rw[hp,if_pos rfl,show shaW.length=7 from rfl];refine aC fun K hK=>Rg ?_;iterate 5 refine S0 ?_
  refine aF (g:=some (14,false)) rfl rfl fun K' hK'=>T5 ?_;refine bM9 (args:=[_]) (bY3 (s.drop 7) 32 44 (List.replicate 32 0) (by simp) (by omega) (by omega) (by rw[List.length_drop];omega)) rfl (by simp) ⟨rfl,rfl,rfl,rfl⟩ ?_;rintro u l' ⟨rfl,hll,hw⟩;refine AX (hK' _ _ ?_);clear hK' K';iterate 2 refine S0 ?_
  refine T2 (hK _ _ _ ?_);clear hK K;refine aK (b:=!(fK (s.drop 7) 32).isSome) rfl (fun hb=>?_) (fun hb=>?_)
  · have F:=aI @aE4 (aI @dg_setAt (aI @dH (aI @dI (aI @xF (aI @nQ @aN9)))));refine RF ?_;refine aH (RT Tryz.results97 ?_);have hn:gL s=none:=aE3 (fun _=>by simpa using hb);exact bD [] zd (.bool false) rfl ⟨by rw[hn];rfl,by rw[hn];rfl⟩
  refine aM ?_;refine T0 (hK _ _ _ ?_);clear hK K;obtain⟨l,hl⟩:=Option.isSome_iff_exists.1 (show(fK (s.drop 7) 32).isSome=true by simpa using hb);have:=hw l hl;subst this;have hv:=aE2 hp hl hll;have F:=aI @tX (aI hll @dg_setAt);refine RF ?_;refine aH (RT Tryz.results97 ?_);simp only[tX,hll,if_true,Option.map_some];refine bD [] (dg (⟨l',hll⟩:Dig)) (.bool true) ?_ ?_
  · simp[HV.close,HV.closeL,HV.norm,HV.toC,HV.toCL,CV.denil,denilL_u8];rfl
  exact⟨by rw[hv];rfl,by rw[hv];rfl⟩
 have hp':jH s shaW=false:=by simpa using hp
 rw[hp',if_neg (by simp)];refine aC fun K hK=>Rg ?_;iterate 8 refine S0 ?_
 refine T2 (hK _ _ _ ?_);clear hK K;refine CT rfl ?_;have F:=aI @aE4 (aI @dg_setAt (aI @dH (aI @dI (aI @xF (aI @nQ @aN9)))));refine RF ?_;refine aH (RT Tryz.results97 ?_);have hn:gL s=none:=aE3 (fun h=>absurd h hp);exact bD [] zd (.bool false) rfl ⟨by rw[hn];rfl,by rw[hn];rfl⟩
end Go.Proofs.YthedbjfipmkpiaaGreatDoor
