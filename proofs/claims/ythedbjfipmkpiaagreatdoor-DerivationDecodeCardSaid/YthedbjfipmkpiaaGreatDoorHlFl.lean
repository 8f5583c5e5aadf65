/- HL: a struct of one struct is that struct; functions that write a boxed array through a slice cO2 it. By an AI agent. -/
import Derived.Test.YthedbjfipmkpiaaGreatDoorHdSb
import Derived.Test.YthedbjfipmkpiaaGreatDoorPl02g
import Derived.Test.YthedbjfipmkpiaaGreatDoorHdFm
import Derived.Test.YthedbjfipmkpiaaGreatDoorHdU2
import Derived.Test.YthedbjfipmkpiaaGreatDoorHlIt
import Derived.Test.YthedbjfipmkpiaaGreatDoorPl18e
set_option linter.unusedSimpArgs false
set_option linter.unusedVariables false
set_option linter.defProp false
namespace Go.Proofs.YthedbjfipmkpiaaGreatDoor
open Go Go.Hl Go.Pl
set_option maxRecDepth 10000
set_option maxHeartbeats 16000000
def wlK :List (Int×List UInt8):=[(1,lF),(2,rA),(3,tF),(4,vD),(5,vE)]
theorem cI8 (k:Int):(lkG wlK k).getD []=wordK k∧(lkG wlK k).isSome=inB k 1 5:=by
 by_cases h:1≤k∧k≤5
 ·
  obtain rfl|rfl|rfl|rfl|rfl:k=1∨k=2∨k=3∨k=4∨k=5:=by omega
  all_goals decide
 have h1: ∀z:Int,1≤z→z≤5→(z==k)=false:=fun z z1 z2=>beq_eq_false_iff_ne.2 (by omega);have e:lkG wlK k=none:=by
  simp only[lkG,wlK,List.find?_cons,List.find?_nil,h1 1 (by omega) (by omega),h1 2 (by omega) (by omega),h1 3 (by omega) (by omega),h1 4 (by omega) (by omega),h1 5 (by omega) (by omega),Option.map_none]
 rw[e];refine⟨?_,?_⟩
 · unfold wordK;rw[if_neg (by omega),if_neg (by omega),if_neg (by omega),if_neg (by omega),if_neg (by omega)];rfl
 have:inB k 1 5=false:=by
  unfold inB;simp;omega
 rw[this];rfl
theorem bZ6 :lst []=fob []:=by funext i;simp[lst,fob,cZ]
theorem cI9 :bS2 Tryz.prog 130:=⟨3,9,Tryz.underlying130,Tryz.underlying3,fun w=>by rw[Tryz.zeroValue9]⟩
theorem bZ7 (n:Nat)(ob:Ob)(x:Array MapEntry)(c:Nat):kL (sub [] n) ob 0 [.raw x c]=upd ob n (some (.raw x c)):=rfl
theorem bF8 (n:Nat):HV.ren (sub [] n) (.mapr 0)= .mapr n:=rfl
theorem aS6 :HGe Tryz.prog 82 [] [] (fun r os'=>r= .mapr 0∧os'=[.raw (iG wlK) 5]):=by
 refine cI (args:=[]) Tryz.func82 rfl (by kernel_rfl) (fP rfl (by simp[eH]) (by simp[HV.menL])) (Nat.le_of_ble_eq_true rfl) ?_;show Hw _ _ 0 _ _ _ (lst _) 0;rw[bZ6];refine aB fun K hK=>aD (by kernel_rfl) ?_;simp (maxSteps:=4000000) only[↓sP,sA,tyS,simprocAttr];repeat refine AI ?_
 refine hK _ _ _ ?_;clear hK K;refine aB fun K hK=>bE0 ?_;refine aZ3 (by kernel_rfl) rfl rfl rfl rfl ?_;refine mG (l:=[]) (z:=1) (s:=lF) (by kernel_rfl) rfl rfl rfl rfl Tryz.underlying130 Tryz.underlying3 rfl rfl rfl rfl rfl ?_;refine mG (l:=[(1,lF)]) (z:=2) (s:=rA) (by kernel_rfl) rfl rfl rfl rfl Tryz.underlying130 Tryz.underlying3 rfl rfl rfl rfl rfl ?_;refine mG (l:=[(1,lF),(2,rA)]) (z:=3) (s:=tF) (by kernel_rfl) rfl rfl rfl rfl Tryz.underlying130 Tryz.underlying3 rfl rfl rfl rfl rfl ?_;refine mG (l:=[(1,lF),(2,rA),(3,tF)]) (z:=4) (s:=vD) (by kernel_rfl) rfl rfl rfl rfl Tryz.underlying130 Tryz.underlying3 rfl rfl rfl rfl rfl ?_;refine mG (l:=[(1,lF),(2,rA),(3,tF),(4,vD)]) (z:=5) (s:=vE) (by kernel_rfl) rfl rfl rfl rfl Tryz.underlying130 Tryz.underlying3 rfl rfl rfl rfl rfl ?_;iterate 2
  (refine aR0 (g:=none) (by kernel_rfl) rfl rfl fun K' hK'=>?_;simp only[sH,↓sP,sA,tyS,simprocAttr];(repeat refine AI ?_);refine hK' _ _ ?_;clear hK' K')
 refine yQ rfl (hK _ _ _ ?_);clear hK K;refine aF ?_;simp (maxSteps:=4000000) only[bS,Tryz.results82,bN,bR,bM,↓sP,sA,tyS,simprocAttr];exact iD [] [4] (.mapr 0) [.raw (iG wlK) 5] rfl (by simp[HV.men]) ⟨⟨by simp[HO.men],by simp,_,rfl,rfl⟩,trivial⟩ rfl (by simp) (by simp) (by simp) ⟨rfl,rfl⟩
theorem aL0 (n:Int)(hn: -9223372036854775808≤n∧n≤9223372036854775807):sL Tryz.prog 44 tabs [.int .i64 n] (fun u v=>u= .str (fB n)∧v= .bool (eY n)):=by
 refine cI (args:=[.c (.int .i64 n)]) Tryz.func44 rfl (by kernel_rfl) (gJ tabs [.int .i64 n]) (Nat.le_of_ble_eq_true rfl) ?_;unfold gE;refine aB fun K hK=>aD (by kernel_rfl) ?_;simp (maxSteps:=4000000) only[↓sP,sA,tyS,simprocAttr];repeat refine AI ?_
 refine hK _ _ _ ?_;clear hK K;refine aB fun K hK=>aD (by kernel_rfl) ?_;simp only[sR,simprocAttr];refine aE (g:=none) rfl rfl fun K' hK'=>?_;simp (maxSteps:=4000000) only[sH,↓sP,sA,tyS,simprocAttr];repeat refine AI ?_
 refine hK' _ _ ?_;clear hK' K';refine aE (g:=none) rfl rfl fun K' hK'=>?_;simp (maxSteps:=4000000) only[sH,↓sP,sA,tyS,simprocAttr];refine kM (args:=[_]) 0 (bZ3 n hn) rfl (by simp) ⟨rfl,rfl,rfl,rfl⟩ ?_;rintro u rfl;repeat refine AI ?_
 refine hK' _ _ ?_;clear hK' K';iterate 3
  (refine aE (g:=none) rfl rfl fun K' hK'=>?_;simp only[sH,↓sP,sA,tyS,simprocAttr];(repeat refine AI ?_);refine hK' _ _ ?_;clear hK' K')
 refine aL 7 rfl (fun h1_7=>?_) (fun h1_7=>?_)
 ·
  iterate 2
   (refine aE (g:=some (8,true)) rfl rfl fun K' hK'=>?_;simp only[sH,↓sP,sA,tyS,simprocAttr,h1_7];(repeat refine AI ?_);refine hK' _ _ ?_;clear hK' K')
  iterate 3
   (refine aE (g:=none) rfl rfl fun K' hK'=>?_;simp only[sH,↓sP,sA,tyS,simprocAttr,h1_7];(repeat refine AI ?_);refine hK' _ _ ?_;clear hK' K')
  simp only[sE,↓reduceIte,simprocAttr];repeat refine AI ?_
  refine hK _ _ _ ?_;clear hK K;refine aF ?_;simp (maxSteps:=4000000) only[bS,Tryz.results44,bN,bR,bM,↓sP,sA,tyS,simprocAttr];refine fK [] (.str (fB n)) (.bool _) rfl rfl (by simp) ⟨rfl,?_⟩;simp only[eY,inB,h1_7,Bool.true_and,Bool.false_and];all_goals first|rfl|(rw[show decide (0≤n)=true from by assumption];rfl)|(rw[show decide (0≤n)=false from by assumption];rfl)
 iterate 2
  (refine aE (g:=some (8,true)) rfl rfl fun K' hK'=>?_;simp only[sH,↓sP,sA,tyS,simprocAttr,h1_7];(repeat refine AI ?_);refine hK' _ _ ?_;clear hK' K')
 iterate 3
  (refine aE (g:=none) rfl rfl fun K' hK'=>?_;simp only[sH,↓sP,sA,tyS,simprocAttr,h1_7];(repeat refine AI ?_);refine hK' _ _ ?_;clear hK' K')
 simp only[sE,↓reduceIte,simprocAttr];repeat refine AI ?_
 refine hK _ _ _ ?_;clear hK K;refine aF ?_;simp (maxSteps:=4000000) only[bS,Tryz.results44,bN,bR,bM,↓sP,sA,tyS,simprocAttr];refine fK [] (.str (fB n)) (.bool _) rfl rfl (by simp) ⟨rfl,?_⟩;simp only[eY,inB,h1_7,Bool.true_and,Bool.false_and];all_goals first|rfl|(rw[show decide (0≤n)=true from by assumption];rfl)|(rw[show decide (0≤n)=false from by assumption];rfl)
theorem cJ0 (v:CV):nth [v] 0=v:=rfl
theorem zD (c:UInt8):(u8 c).denil=u8 c:=rfl
theorem denilL_u8 : ∀bs:List UInt8,CV.denilL (bs.map u8)=bs.map u8
 |[]=>rfl
 |b::bs=>by simp only[List.map_cons,CV.denilL,denilL_u8 bs];rfl
theorem cJ1 (l:List UInt8)(c:UInt8):cJ Tryz.prog 166 [.slc (l.map u8),u8 c] (fun v=>v= .int .i64 (fH l c)):=
 cP8 (f:=166) (fn:=Tryz.f166) Tryz.func166 (by kernel_rfl) (by kernel_rfl) (by kernel_rfl) (by kernel_rfl) l c
theorem bZ8 (l:List UInt8)(c:UInt8):cJ Tryz.prog 169 [.str l,u8 c] (fun v=>v= .int .i64 (fH l c)):=
 cG9 (f:=169) (fn:=Tryz.f169) Tryz.func169 (by kernel_rfl) (by kernel_rfl) (by kernel_rfl) (by kernel_rfl) l c
theorem cR1 (l:List UInt8)(c:UInt8):cJ Tryz.prog 144 [.slc (l.map u8),u8 c] (fun v=>v= .int .i64 (fH l c)):=by
 refine FW Tryz.func144 ?_;have F:=rI;refine RF ?_;refine aB fun K hK=>Rg ?_;have F:=aI rI (aI @denilL_u8 @zD);iterate 2 refine SF ?_
 refine HS rfl rfl fun K' hK'=>T6 ?_;refine C2 (cJ1 l c) ?_;rintro u rfl;refine AX (hK' _ _ ?_);clear hK' K';refine SF ?_;simp only[sE,↓reduceIte,simprocAttr,rI];refine AX (hK _ _ _ ?_);clear hK K;refine aF ?_;simp only[bS,Tryz.results144,bN,bR,bM,↓sP,sA,tyS,simprocAttr,rI];exact aJ [] (.int .i64 (fH l c)) rfl rfl
theorem bZ9 (l:List UInt8)(c:UInt8):cJ Tryz.prog 150 [.str l,u8 c] (fun v=>v= .int .i64 (fH l c)):=by
 refine FW Tryz.func150 ?_;have F:=rI;refine RF ?_;refine aB fun K hK=>Rg ?_;have F:=aI rI (aI @denilL_u8 @zD);iterate 2 refine SF ?_
 refine HS rfl rfl fun K' hK'=>T6 ?_;refine C2 (bZ8 l c) ?_;rintro u rfl;refine AX (hK' _ _ ?_);clear hK' K';refine SF ?_;simp only[sE,↓reduceIte,simprocAttr,rI];refine AX (hK _ _ _ ?_);clear hK K;refine aF ?_;simp only[bS,Tryz.results150,bN,bR,bM,↓sP,sA,tyS,simprocAttr,rI];exact aJ [] (.int .i64 (fH l c)) rfl rfl
theorem tK (l:List UInt8)(c:UInt8):cJ Tryz.prog 124 [.str l,u8 c] (fun v=>v= .int .i64 (fH l c)):=by
 refine FW Tryz.func124 ?_;have F:=rI;refine RF ?_;refine aB fun K hK=>Rg ?_;have F:=aI rI (aI @denilL_u8 @zD);iterate 2 refine SF ?_
 refine HS rfl rfl fun K' hK'=>T6 ?_;refine C2 (bZ9 l c) ?_;rintro u rfl;refine AX (hK' _ _ ?_);clear hK' K';refine SF ?_;simp only[sE,↓reduceIte,simprocAttr,rI];refine AX (hK _ _ _ ?_);clear hK K;refine aF ?_;simp only[bS,Tryz.results124,bN,bR,bM,↓sP,sA,tyS,simprocAttr,rI];exact aJ [] (.int .i64 (fH l c)) rfl rfl
theorem aF8 (l:List UInt8)(c:UInt8):cJ Tryz.prog 122 [.slc (l.map u8),.slc [u8 c]] (fun v=>v= .int .i64 (fH l c)):=by
 refine FW Tryz.func122 ?_;have F:=rI;refine RF ?_;refine RF ?_;refine aB fun K hK=>?_;refine aN ?_;refine RF ?_;refine aH (b:=(1:Int)==0) rfl (fun hb=>?_) (fun hb=>?_)
 · exact absurd hb (by decide)
 refine RF ?_;refine aH (b:=(1:Int)==1) rfl (fun hb=>?_) (fun hb=>?_)
 ·
  refine aB fun K hK=>Rg ?_;have F:=aI rI (aI @u8.eq_1 (aI @cJ0 @denilL_u8));iterate 4 refine SF ?_
  refine HS rfl rfl fun K' hK'=>T6 ?_;refine C2 (cR1 l c) ?_;rintro u rfl;refine AX (hK' _ _ ?_);clear hK' K';refine SF ?_;simp only[sE,↓reduceIte,simprocAttr,rI];refine AX (hK _ _ _ ?_);clear hK K;refine aF ?_;simp only[bS,Tryz.results122,bN,bR,bM,↓sP,sA,tyS,simprocAttr,rI];exact aJ [] (.int .i64 (fH l c)) rfl rfl
 exact absurd hb (by decide)
theorem cJ2 (l:List UInt8)(c:UInt8)(hl:l.length<2^40):bU5 Tryz.prog 92 [.slc (l.map u8),.slc [u8 c]] (fun x y f=> ∃(li re:List UInt8) (fd:Bool),x= .slc (li.map u8)∧y= .slc (re.map u8)∧f= .bool fd∧CutR l c li re fd):=by
 refine FW Tryz.func92 ?_;have F:=rI;refine RF ?_;refine aB fun K hK=>?_;refine aB fun K hK=>Rg ?_;have F:=aI rI @denilL_u8;iterate 2 refine SF ?_
 refine HS rfl rfl fun K' hK'=>T6 ?_;refine C2 (aF8 l c) ?_;rintro u rfl;refine AX (hK' _ _ ?_);clear hK' K';refine SF ?_;simp only[sE,↓reduceIte,simprocAttr,rI];refine AX (hK _ _ _ ?_);clear hK K;have F:=rI;refine RF ?_;refine aH (b:=decide ((0:Int)≤fH l c)) rfl (fun hb=>?_) (fun hb=>?_)
 ·
  have hn: ¬fH l c<0:=by simp at hb;omega
  obtain⟨i,hi,hil,hsp⟩:=iQ hn;have hi':=hi;rw[hi];refine aB fun K hK=>QR ?_;have F:=aI rI (aI @Int.natCast_nonneg (aI @Int.ofNat_le (aI @Int.sub_zero (aI @Nat.sub_zero (aI @List.drop_zero.{0} (aI @iU (aI @denilL_u8 (aI @List.length_map.{0,0} (show IntKind.i64.wrap ((i:Int)+1)=((i+1:Nat):Int)from by rw[IntWalk.i64_in _ (by omega)];rfl)))))))));iterate 12 refine SF ?_
  simp only[sE,↓reduceIte,simprocAttr,rI];refine AX (hK _ _ _ ?_);clear hK K;refine aF ?_;simp only[bS,Tryz.results92,bN,bR,bM,↓sP,sA,tyS,simprocAttr,rI];refine yI [] (.slc ((l.take i).map u8)) (.slc ((l.drop (i+1)).map u8)) (.bool true) ?_ ⟨_,_,_,rfl,rfl,rfl,.inr ⟨rfl,i,hi,hil,rfl,rfl⟩⟩;simp[HV.close,HV.closeL,HV.norm,HV.toC,HV.toCL,CV.denil,denilL_u8];exact⟨by rw[←List.map_take,denilL_u8],by rw[←List.map_drop,←List.map_take,denilL_u8,List.take_of_length_le (by simp)]⟩
 have hn:fH l c<0:=by simp at hb;omega
 refine aK ?_;refine TQ rI ?_;refine AX (hK _ _ _ ?_);clear hK K;refine aB fun K hK=>Rg ?_;iterate 4 refine SF ?_
 simp only[sE,↓reduceIte,simprocAttr,rI];refine AX (hK _ _ _ ?_);clear hK K;refine aF ?_;simp only[bS,Tryz.results92,bN,bR,bM,↓sP,sA,tyS,simprocAttr,rI];refine yI [] (.slc (l.map u8)) (.slc []) (.bool false) ?_ ⟨l,[],false,rfl,rfl,rfl,.inl ⟨rfl,hn,rfl,rfl⟩⟩;simp[HV.close,HV.closeL,HV.norm,HV.toC,HV.toCL,CV.denil,denilL_u8]
theorem cJ3 (l:List UInt8)(c:UInt8):bD8 Tryz.prog 123 148 [.slc (l.map u8),.slc [u8 c],.int .i64 0] [(52,.slc [u8 c]),(52,.slc (l.map u8)),(3,.int .i64 0)]:=by
 refine FW Tryz.func123 ?_;refine aB fun K hK=>Rg ?_;have F:=rI;iterate 4 refine SF ?_
 simp only[sE,↓reduceIte,simprocAttr,rI];refine AX (hK _ _ _ ?_);clear hK K;refine RF ?_;refine aF ?_;simp only[bS,Tryz.results123,bN,bR,bM,↓sP,sA,tyS,simprocAttr,rI];refine uQ (gf:=148) (bs:=[(52,.slc [u8 c]),(52,.slc (l.map u8)),(3,.int .i64 0)]) (ids:=[4,0,8]) rfl (by simp) (by decide) ?_ ?_
 ·
  intro j x hx
  match j,hx with
  |0,hx=>cases hx;rfl
  |1,hx=>cases hx;rfl
  |2,hx=>cases hx;rfl
 intro x hx;simp only[List.mem_cons,List.not_mem_nil,or_false]at hx;rcases hx with rfl|rfl|rfl
 · rfl
 · exact congrArg CV.slc (denilL_u8 l)
 rfl
theorem bN6 (l:List UInt8)(c:UInt8):bD8 Tryz.prog 93 148 [.slc (l.map u8),.slc [u8 c]] [(52,.slc [u8 c]),(52,.slc (l.map u8)),(3,.int .i64 0)]:=by
 refine FW Tryz.func93 ?_;have F:=rI;refine RF ?_;refine aB fun K hK=>Rg ?_;iterate 2 refine S0 ?_ (e:=fun _ h_=>by simp only[sH,↓sP,sA,tyS,simprocAttr,rI,denilL_u8,nN,iW,List.range',List.map_cons,List.map_nil];exact AX h_)
 refine HS rfl rfl fun K' hK'=>?_;simp only[sH,↓sP,sA,tyS,simprocAttr,rI,denilL_u8,nN,iW,List.range',List.map_cons,List.map_nil];refine uP (args:=[_,_,_]) (cJ3 l c) (by simp) ⟨rfl,rfl,rfl,rfl⟩ ?_;refine AX (hK' _ _ ?_);clear hK' K';refine S0 ?_ (e:=fun _ h_=>by simp only[sH,↓sP,sA,tyS,simprocAttr,rI,denilL_u8,nN,iW,List.range',List.map_cons,List.map_nil];exact AX h_);simp only[sE,↓reduceIte,simprocAttr,rI];refine AX (hK _ _ _ ?_);clear hK K;refine aF ?_;simp only[bS,Tryz.results93,bN,bR,bM,↓sP,sA,tyS,simprocAttr,rI];refine uQ (gf:=148) (bs:=[(52,.slc [u8 c]),(52,.slc (l.map u8)),(3,.int .i64 0)]) (ids:=[12,13,14]) rfl (by simp) (by decide) ?_ ?_
 ·
  intro j x hx
  match j,hx with
  |0,hx=>cases hx;rfl
  |1,hx=>cases hx;rfl
  |2,hx=>cases hx;rfl
 intro x hx;simp only[List.mem_cons,List.not_mem_nil,or_false]at hx;rcases hx with rfl|rfl|rfl
 · rfl
 · exact congrArg CV.slc (denilL_u8 l)
 rfl
theorem cN4 {α:Type}(l:List (List UInt8))(j:Nat)(p:List UInt8)(r:List (List UInt8))(h:l.drop j=p::r): ∃hj:j<(l.map fun p=>[CV.slc (p.map u8)]).length,(l.map fun p=>[CV.slc (p.map u8)])[j]=[CV.slc (p.map u8)]∧l.drop (j+1)=r:=by
 have hj:j<l.length:=by
  rcases Nat.lt_or_ge j l.length with h'|h'
  · exact h'
  rw[List.drop_eq_nil_of_le h']at h;cases h
 have h1:=List.drop_eq_getElem_cons hj;rw[h1]at h;cases h;exact⟨by simpa using hj,by simp,rfl⟩
theorem bA4 (l:List UInt8)(c:UInt8)(hl:l.length<2^40):aJ8 Tryz.prog 148 [(52,.slc [u8 c]),(52,.slc (l.map u8)),(3,.int .i64 0)] ((aU c l).map fun p=>[.slc (p.map u8)]):=by
 refine aD9 Tryz.func148 rfl (by kernel_rfl) (Nat.le_of_ble_eq_true rfl) rfl fun L J hS hY=>?_;have e0:kX [(52,CV.slc [u8 c]),(52,.slc (l.map u8)),(3,.int .i64 0)]=fob [(0,.box 52 (.c (.slc [u8 c]))),(1,.box 52 (.c (.slc (l.map u8)))),(2,.box 3 (.c (.int .i64 0)))]:=by
  funext i
  match i with
  |0=>rfl
  |1=>rfl
  |2=>rfl
  |i+3=>simp[kX,fob,upd]
 have e1:iW (List.range [((52:Nat),CV.slc [u8 c]),(52,.slc (l.map u8)),(3,.int .i64 0)].length)=[.ptr 0 0,.ptr 1 0,.ptr 2 0]:=rfl;rw[e0,e1];refine fX fun K hK=>?_;refine fX fun K1 hK1=>oI hS rfl (aD (by kernel_rfl) ?_);simp only[sR,simprocAttr];have F:=rI;iterate 3 refine SF ?_
 simp only[sE,↓reduceIte,simprocAttr,rI];refine hK1 _ _ _ _ _ ?_;clear hK1 K1;refine kN (b:=false) rfl (fun hb=>by cases hb) (fun _=>?_);refine oJ ?_;simp only[sE,↓reduceIte,simprocAttr,rI];refine hK _ _ _ _ _ ?_;clear hK K;refine fX fun K hK=>?_;refine pG ?_;refine aQ9 (α:={y:Nat×List UInt8//(aU c l).drop y.1=aU c y.2∧y.2.length≤l.length}) hS (fun y=>(fin [(0,.opq (.func (.yield L) #[] #[])),(1,.ptr 0 0),(2,.ptr 1 0),(3,.ptr 2 0)],fob [(0,.box 52 (.c (.slc [u8 c]))),(1,.box 52 (.c (.slc (y.1.2.map u8)))),(2,.box 3 (.c (.int .i64 0)))])) (fun y=>y.1.1) 100 (fun y=>y.1.2.length) ⟨(0,l),rfl,Nat.le_refl _⟩ rfl (fF) rfl ?_;rintro⟨⟨j,rest⟩,hsp,hle⟩;simp only at hsp hle;refine pG ?_;refine fX fun K1 hK1=>oI hS rfl (aD (by kernel_rfl) ?_);simp only[sR,simprocAttr];iterate 2 refine SF ?_
 have F:=aI rI @denilL_u8;refine HS rfl rfl fun K' hK'=>T6 ?_;refine C2 (aF8 rest c) ?_;rintro u rfl;refine AX (hK' _ _ ?_);clear hK' K';have F:=rI;refine SF ?_;simp only[sE,↓reduceIte,simprocAttr,rI];refine hK1 _ _ _ _ _ ?_;clear hK1 K1;refine fX fun K1 hK1=>?_;refine fX fun K2 hK2=>oI hS rfl (aD (by kernel_rfl) ?_);simp only[sR,simprocAttr];iterate 2 refine SF ?_
 simp only[sE,↓reduceIte,simprocAttr,rI];refine hK2 _ _ _ _ _ ?_;clear hK2 K2;refine kN (b:=decide (fH rest c<0)) rfl (fun hb=>?_) (fun hb=>?_)
 ·
  have hn:fH rest c<0:=by simpa using hb
  rw[sY hn]at hsp;obtain⟨hj,hx,hd⟩:=cN4 (α:=Nat) _ _ _ _ hsp;refine aQ8 ?_;simp only[sE,↓reduceIte,simprocAttr,rI];clear hK1 K1;refine hK _ _ _ _ _ ?_;clear hK K;have htk:List.take rest.length (rest.map u8)=rest.map u8:=List.take_of_length_le (by simp);refine uO (l:=L) 7 hS hY rfl (by kernel_rfl) (by decide) ?_;simp only[sR,List.range',simprocAttr];have F:=aI rI @List.length_map.{0,0};iterate 6 refine SF ?_
  refine S0 ?_ (e:=fun _ h_=>by simp only[sH,↓sP,sA,tyS,simprocAttr,rI,htk,List.length_map,↓hslice3.eq_def,Int.natCast_nonneg,iU,List.drop_zero,Nat.sub_zero,Int.le_refl,Int.toNat_zero];exact AX h_);rw[hlex];refine⟨_,_,_,hj,rfl,rfl,rfl,rfl,rfl,?_,?_,?_⟩
  · rw[hx];rfl
  · simp only[sR,List.range',simprocAttr];rw[hlex];refine⟨by simp,fun _=>?_⟩;have:=List.drop_eq_nil_iff.1 hd;simp only[List.length_map]at hj⊢;omega
  simp only[sR,List.range',simprocAttr];rw[hlex];exact⟨by simp,fun h=>by cases h⟩
 have hn: ¬fH rest c<0:=by simpa using hb
 obtain⟨k,hk,hkl,hsp2⟩:=iQ hn;rw[hk];rw[hsp2]at hsp;obtain⟨hj,hx,hd⟩:=cN4 (α:=Nat) _ _ _ _ hsp;have hkm:min k rest.length=k:=by omega
 have ek:List.take k (rest.map u8)=(rest.take k).map u8:=List.map_take.symm;have htk:List.take k ((rest.take k).map u8)=(rest.take k).map u8:=List.take_of_length_le (by simp;omega);have hw1:IntKind.i64.wrap ((k:Int)+1)=((k+1:Nat):Int):=by rw[IntWalk.i64_in _ (by omega)];rfl
 have hkl1:k+1≤rest.length:=hkl;have edr:List.take (rest.length-(k+1)) (List.drop (k+1) (rest.map u8))=(rest.drop (k+1)).map u8:=by rw[List.map_drop,List.take_of_length_le (by simp)]
 refine oJ ?_;simp only[sE,↓reduceIte,simprocAttr,rI];refine hK1 _ _ _ _ _ ?_;clear hK1 K1;refine fX fun K1 hK1=>oI hS rfl (aD (by kernel_rfl) ?_);simp only[sR,simprocAttr];iterate 6 refine S0 ?_ (e:=fun _ h_=>by simp only[sH,↓sP,sA,tyS,simprocAttr,rI,ek,List.length_map,Int.natCast_nonneg,iU,Int.add_zero,Int.ofNat_le,Nat.le_of_lt hkl,List.drop_zero,Nat.sub_zero,show IntKind.i64.wrap (k:Int)=(k:Int)from IntWalk.i64_in _ (by omega)];exact AX h_)
 simp only[sE,↓reduceIte,simprocAttr,rI];refine hK1 _ _ _ _ _ ?_;clear hK1 K1;refine fX fun K1 hK1=>?_;refine fX fun K2 hK2=>uO (l:=L) 7 hS hY rfl (by kernel_rfl) (by decide) ?_;simp only[sR,List.range',simprocAttr];have F:=aI rI (aI @List.length_map.{0,0} (aI @List.length_take.{0} hkm));iterate 6 refine SF ?_
 refine S0 ?_ (e:=fun _ h_=>by simp only[sH,↓sP,sA,tyS,simprocAttr,rI,htk,List.length_map,List.length_take,hkm,↓hslice3.eq_def,Int.natCast_nonneg,iU,List.drop_zero,Nat.sub_zero,Int.le_refl,Int.toNat_zero];exact AX h_);rw[hlex];refine⟨_,_,_,hj,rfl,rfl,rfl,rfl,rfl,?_,?_,?_⟩
 · rw[hx];rfl
 ·
  simp only[sR,List.range',simprocAttr];have F:=rI;refine SF ?_;simp only[sE,↓reduceIte,simprocAttr,rI];refine hK2 _ _ _ _ _ ?_;clear hK2 K2;refine kN (b:=false) rfl (fun hb=>by cases hb) (fun _=>?_);refine oJ ?_;simp only[sE,↓reduceIte,simprocAttr,rI];refine hK1 _ _ _ _ _ ?_;clear hK1 K1;refine oI hS rfl (aD (by kernel_rfl) ?_);simp only[sR,simprocAttr];have F:=aI rI (aI edr (aI hw1 (aI @List.length_map.{0,0} (aI @Int.natCast_nonneg (aI @iU (aI @Int.ofNat_le (aI hkl1 @denilL_u8)))))));iterate 7 refine SF ?_
  simp only[sE,↓reduceIte,simprocAttr,rI];refine⟨⟨(j+1,rest.drop (k+1)),hd,by simp;omega⟩,fF,trivial,rfl,?_⟩;show(rest.drop (k+1)).length<rest.length;simp;omega
 simp only[sR,List.range',simprocAttr];have F:=rI;refine SF ?_;simp only[sE,↓reduceIte,simprocAttr,rI];refine hK2 _ _ _ _ _ ?_;clear hK2 K2;refine kN (b:=true) rfl (fun _=>?_) (fun hb=>by cases hb);refine bD7 ?_;simp only[sE,↓reduceIte,simprocAttr,rI];exact⟨by simp,fun h=>by cases h⟩
theorem cR2 (s:aG)(hl:s.length<2^40):eU Tryz.prog 94 [.str s] (fun u v=>u= .str ((unW s).getD [])∧v= .bool (unW s).isSome):=by
 refine FW Tryz.func94 ?_;refine R0 ?_;refine aB fun K hK=>?_;refine R0 ?_;refine aH (b:=s==[126]) rfl (fun hb=>?_) (fun hb=>?_)
 ·
  refine R0 ?_;refine aF (RT Tryz.results94 ?_);have hs:s=[126]:=by simpa using hb
  subst hs;exact aR [] (.str []) (.bool true) rfl ⟨rfl,rfl⟩
 refine aK ?_;refine T0 (hK _ _ _ ?_);clear hK K;have hne:s≠[126]:=by simpa using hb
 clear hb;refine R0 ?_;refine aB fun K hK=>?_;refine R0 ?_;refine aN ?_;refine gQ 4 0 5 1 rfl rfl rfl rfl ?_;refine bF (α:={y:Nat×aG//UnSt s y.1 y.2}) (fun y=>(fin [(0,.c (.str s)),(4,.own 24 y.1.2.length),(5,.c (.int .i64 y.1.1))],fob [(24,.row 5 1 (y.1.2.map dG))])) 100 (fun y=>s.length-y.1.1) ⟨(0,[]),UnSt.init s⟩ (fF) ?_;rintro⟨⟨i,out⟩,hst⟩;simp only at hst;have hi:=hst.1;have ho:=hst.2.2.2;refine aB fun K hK=>?_;refine aB fun K hK=>Rg ?_;iterate 4 refine S0 ?_
 refine T2 (hK _ _ _ ?_);clear hK K;refine aH (b:=decide ((i:Int)<s.length)) rfl (fun hb=>?_) (fun hb=>?_)
 ·
  have hlt:i<s.length:=by simpa using hb
  clear hb;have hgd:s.getD i 0=s[i]:=by simp[hlt]
  refine aK ?_;refine T0 (hK _ _ _ ?_);clear hK K;refine aB fun K hK=>?_;refine aN ?_;refine aB fun K hK=>?_;refine aB fun K hK=>Rg ?_;iterate 3 refine S0 ?_ (e:=fun _ h_=>by simp only[sH,↓sP,sA,tyS,simprocAttr,Int.natCast_nonneg,Int.ofNat_lt,hlt,hgd];exact AX h_)
  refine HS rfl rfl fun K' hK'=>?_;simp only[sH,↓sP,sA,tyS,simprocAttr,Int.natCast_nonneg,Int.ofNat_lt,hlt,hgd];refine C1 (tJ s[i]) ?_;rintro u rfl;refine AX (hK' _ _ ?_);clear hK' K';refine T2 (hK _ _ _ ?_);clear hK K;refine aH (b:=cT s[i]) rfl (fun hb=>?_) (fun hb=>?_)
  ·
   refine aB fun K hK=>Rg ?_;iterate 7 refine S0 ?_ (e:=fun _ h_=>by simp only[sH,↓sP,sA,tyS,simprocAttr,Int.natCast_nonneg,Int.ofNat_lt,hlt,hgd,List.length_append,List.length_map];exact AX h_)
   refine T2 (hK _ _ _ ?_);clear hK K;refine bA (T3 ?_);clear hK K;refine AX (hK _ _ _ ?_);clear hK K;refine aD (by kernel_rfl) ?_;refine TQ (fA i) ?_;refine⟨⟨(i+1,out++[s[i]]),hst.plain hlt hb⟩,aM (by omega) ?_ ?_,?_⟩
   · simp[aW,upd_at,fin_at,HV.men]
   · simp only[aX,List.map_append];exact⟨rfl,by omega,trivial,trivial⟩
   show s.length-(i+1)<s.length-i;omega
  refine aK ?_;refine T0 (hK _ _ _ ?_);clear hK K;refine aB fun K hK=>?_;have hp:cT s[i]=false:=hb;clear hb;have hw1:IntKind.i64.wrap ((i:Int)+1)=((i+1:Nat):Int):=by rw[IntWalk.i64_in _ (by omega)];rfl
  have hw2:IntKind.i64.wrap ((i:Int)+2)=((i+2:Nat):Int):=by rw[IntWalk.i64_in _ (by omega)];rfl
  have hw3:IntKind.i64.wrap (((i+2:Nat):Int)+1)=((i+3:Nat):Int):=by rw[IntWalk.i64_in _ (by omega)];rfl
  refine aB fun K hK=>Rg ?_;iterate 5 refine S0 ?_ (e:=fun _ h_=>by simp only[sH,↓sP,sA,tyS,simprocAttr,Int.natCast_nonneg,Int.ofNat_lt,hlt,hgd,hw2];exact AX h_)
  refine aL 29 rfl (fun h9_29=>?_) (fun h9_29=>?_)
  ·
   iterate 6 refine S0 ?_ (e:=fun _ h_=>by simp only[sH,↓sP,sA,tyS,simprocAttr,Int.natCast_nonneg,Int.ofNat_lt,hlt,hgd,hw2,h9_29];exact AX h_)
   refine T2 (hK _ _ _ ?_);clear hK K;refine CT rfl ?_;refine R0 ?_;refine aF (RT Tryz.results94 ?_);have h37:s[i]≠37:=by rintro h;rw[h]at h9_29;simp at h9_29
   have hn:=gY (hst.bad1 hlt hp (.inl h37)) hne;exact aR [] (.str []) (.bool false) rfl ⟨by rw[hn];rfl,by rw[hn];rfl⟩
  iterate 6 refine S0 ?_ (e:=fun _ h_=>by simp only[sH,↓sP,sA,tyS,simprocAttr,Int.natCast_nonneg,Int.ofNat_lt,hlt,hgd,hw2,h9_29];exact AX h_)
  refine aL 35 rfl (fun h9_35=>?_) (fun h9_35=>?_)
  ·
   simp only[h9_35];refine T2 (hK _ _ _ ?_);clear hK K;refine CT rfl ?_;refine R0 ?_;refine aF (RT Tryz.results94 ?_);have hi2:s.length≤i+2:=by simp at h9_35;omega
   have hn:=gY (hst.bad1 hlt hp (.inr hi2)) hne;exact aR [] (.str []) (.bool false) rfl ⟨by rw[hn];rfl,by rw[hn];rfl⟩
  simp only[h9_35];refine T2 (hK _ _ _ ?_);clear hK K;refine CF rfl ?_;refine aK ?_;refine T0 (hK _ _ _ ?_);clear hK K;have h37:s[i]=37:=by
   simp only[bne_eq_false_iff_eq]at h9_29;exact UInt8.toNat_inj.1 (by show s[i].toNat=37;omega)
  have hi2:i+2<s.length:=by simp at h9_35;omega
  have hi1:i+1<s.length:=by omega
  have hg1:s.getD (i+1) 0=s[i+1]:=by simp[hi1]
  have hg2:s.getD (i+2) 0=s[i+2]:=by simp[hi2]
  refine aB fun K hK=>DW [(0,[],[]),(1,[],[]),(2,[],[]),(3,[],[]),(5,[],[]),(6,[],[]),(7,[],[]),(8,[],[]),(4,[],[5,6,7,8]),(9,[],[]),(10,[],[]),(11,[],[])] [0,0,2,7,15,0,0,64,224,511,1023,2047] ?_;have F:=aI @Int.natCast_nonneg (aI @Int.ofNat_lt (aI hw1 (aI hw2 (aI hg1 (aI hg2 (aI hi1 (aI hi2 (aI h9_29 h9_35))))))));iterate 8 refine WF ?_
  refine bL (g:=none) rfl rfl fun K' hK'=>T6 ?_;refine C2 (tK cH0 s[i+1]) ?_;rintro u rfl;refine AX (hK' _ _ ?_);clear hK' K';refine bL (g:=none) rfl rfl fun K' hK'=>T6 ?_;refine C2 (tK cH0 s[i+2]) ?_;rintro u rfl;refine AX (hK' _ _ ?_);clear hK' K';iterate 2 refine WF ?_
  refine T2 (hK _ _ _ ?_);clear hK K;refine aB fun K hK=>?_;by_cases hx:valH s[i+1]<16
  ·
   by_cases hy:valH s[i+2]<16
   ·
    rw[sZ,sZ,if_pos hx,if_pos hy];have hx0:decide (((valH s[i+1]:Nat):Int)<0)=false:=by simp
    have hy0:decide (((valH s[i+2]:Nat):Int)<0)=false:=by simp
    have e1:IntKind.i64.wrap (16*((valH s[i+1]:Nat):Int))=((16*valH s[i+1]:Nat):Int):=by rw[IntWalk.i64_in _ (by omega)];omega
    have e2:IntKind.i64.wrap (((16*valH s[i+1]:Nat):Int)+((valH s[i+2]:Nat):Int))=((16*valH s[i+1]+valH s[i+2]:Nat):Int):=by rw[IntWalk.i64_in _ (by omega)];omega
    have e3:IntKind.u8.wrap ((16*valH s[i+1]+valH s[i+2]:Nat):Int)=((byteH s[i+1] s[i+2]).toNat:Int):=by rw[IntWalk.u8_in _ (by omega),uV hx hy]
    refine aB fun K hK=>Rg ?_;have F:=aI hx0 (aI hy0 (aI e1 (aI e2 (aI e3 (aI h9_29 h9_35)))));iterate 12 refine SF ?_
    refine aE (g:=some (53,false)) rfl rfl fun K' hK'=>T6 ?_;refine C1 (tJ (byteH s[i+1] s[i+2])) ?_;rintro u rfl;refine AX (hK' _ _ ?_);clear hK' K';refine SF ?_;refine T2 (hK _ _ _ ?_);clear hK K;refine aH (b:=cT (byteH s[i+1] s[i+2])) rfl (fun hb=>?_) (fun hb=>?_)
    · refine R0 ?_;refine aF (RT Tryz.results94 ?_);have hn:=gY (hst.bad2 hi2 h37 (by simp[okH,hx,hy,hb])) hne;exact aR [] (.str []) (.bool false) rfl ⟨by rw[hn];rfl,by rw[hn];rfl⟩
    refine aK ?_;refine T0 (hK _ _ _ ?_);clear hK K;refine aB fun K hK=>Rg ?_;have F:=aI @Int.natCast_nonneg (aI @List.length_append.{0} (aI @List.length_map.{0,0} (aI e1 (aI e2 (aI e3 (aI h9_29 h9_35))))));iterate 9 refine SF ?_
    refine T2 (hK _ _ _ ?_);clear hK K;refine aD (by kernel_rfl) ?_;refine TQ hw2 ?_;refine AX (hK _ _ _ ?_);clear hK K;refine aD (by kernel_rfl) ?_;refine TQ hw3 ?_;refine⟨⟨(i+3,out++[byteH s[i+1] s[i+2]]),hst.esc hi2 h37 (by simp[okH,hx,hy,hb])⟩,aM (by omega) ?_ ?_,?_⟩
    · simp[aW,upd_at,fin_at,HV.men]
    · simp only[aX,List.map_append];exact⟨rfl,by omega,trivial,trivial⟩
    show s.length-(i+3)<s.length-i;omega
   rw[sZ,sZ,if_pos hx,if_neg hy];have hx0:decide (((valH s[i+1]:Nat):Int)<0)=false:=by simp
   refine aB fun K hK=>Rg ?_;have F:=aI hx0 (aI h9_29 h9_35);iterate 14 refine SF ?_
   refine T2 (hK _ _ _ ?_);clear hK K;refine CT rfl ?_;refine R0 ?_;refine aF (RT Tryz.results94 ?_);have hn:=gY (hst.bad2 hi2 h37 (by simp[okH,hx,hy])) hne;exact aR [] (.str []) (.bool false) rfl ⟨by rw[hn];rfl,by rw[hn];rfl⟩
  rw[sZ,if_neg hx];refine aB fun K hK=>Rg ?_;have F:=aI h9_29 h9_35;iterate 14 refine SF ?_
  refine T2 (hK _ _ _ ?_);clear hK K;refine CT rfl ?_;refine R0 ?_;refine aF (RT Tryz.results94 ?_);have hn:=gY (hst.bad2 hi2 h37 (by simp[okH,hx])) hne;exact aR [] (.str []) (.bool false) rfl ⟨by rw[hn];rfl,by rw[hn];rfl⟩
 refine bA (T3 ?_);clear hK K;refine AX (hK _ _ _ ?_);clear hK K;have hei:i=s.length:=by simp at hb;omega
 have hfin:=hst.fin hei hne;refine cR [24] (bE (fr2:=fin [(4,.c (.slc (out.map dG)))]) (ob2:=fob []) (nx2:=200) (aM (by omega) (by simp[aW,dA,fin_at,finA_at,upd_at,fob_at,HV.close,HV.closeL,CV.denil,CV.denilL,bU,HV.men,HV.menL,HV.norm,HV.toC,HV.toCL]) (by simp[aX,dL,fob_at,upd_at,none0_at,bT,HO.close,HV.close,HV.closeL,HO.men,HV.men,HV.menL,HV.norm,HV.toC,HV.toCL])) ?_);refine aB fun K hK=>Rg ?_;have F:=aI @bytesC_map @List.length_map.{0,0};iterate 7 refine SF ?_
 refine T2 (hK _ _ _ ?_);clear hK K;refine aF (RT Tryz.results94 ?_);refine aR [] (.str out) (.bool (decide (0<(out.length:Int)))) rfl ?_;rw[hfin];by_cases ho0:out=[]
 · subst ho0;simp
 have:0<out.length:=List.length_pos_iff.2 ho0;simp[ho0,this]
def lsC (l:List aG):CV:= .slc (l.map .str)
theorem eE (l:List aG):(lsC l).cells=1:=rfl
theorem mI (l:List aG):(lsC l).denil=lsC l:=by simp only[lsC,CV.denil,denilL_str]
theorem dE (l:List (List aG)):CV.denilL (l.map lsC)=l.map lsC:=cE mI l
theorem cR3 (b:aG)(hl:b.length<2^40):eU Tryz.prog 61 [.slc (b.map u8)] (fun u v=>u= .slc ((gZ b).map lsC)∧v= .int .i64 (eW b)):=by
 refine FW Tryz.func61 ?_;have F:=rI;refine RF ?_;refine bV1 ?_;refine aB fun K hK=>?_;have F:=aI rI @List.length_map.{0,0};refine RF ?_;refine aH (b:=decide ((262144:Int)<b.length)) rfl (fun hb=>?_) (fun hb=>?_)
 ·
  have F:=rI;refine RF ?_;refine aF ?_;simp only[bS,Tryz.results61,bN,bR,bM,↓sP,sA,tyS,simprocAttr,rI];have hE:eW b=3:=by unfold eW;rw[if_pos (by simp at hb;omega)]
  refine aR [] (.slc []) (.int .i64 3) ?_ ⟨by simp only[gZ,hE];rfl,by rw[hE]⟩;simp[HV.close,HV.closeL,CV.denil,CV.denilL,HV.norm,HV.toC,HV.toCL]
 refine aK ?_;refine TQ rI ?_;refine AX (hK _ _ _ ?_);clear hK K;have hle:b.length≤262144:=by simp at hb;omega
 clear hb;have F:=rI;refine RF ?_;refine RF ?_;refine aB fun K hK=>?_;refine bS6 ?_;try simp only[↓sP,sA,tyS,simprocAttr,rI]
 refine AX (hK _ _ _ ?_);clear hK K;refine aB fun K hK=>?_;have key: ∀(ok:Bool) (ls:List (List aG)) fr ob nx,(ok=true→iX b=some ls)→(ok=false→iX b=none)→ls.length≤b.length→Fits 0 fr ob (fin [(4,.own 32 ls.length),(5,.ptr 24 0)]) (fob [(24,.box 4 (.c (.bool ok))),(32,.row 71 1 (ls.map lsC))]) 1000→K fr ob nx:=by
  intro ok ls fr ob nx h1 h2 h3 hf;refine hK _ _ _ (bE hf ?_);clear hf hK K;refine aB fun K hK=>?_;cases ok
  ·
   refine aB fun K hK=>Rg ?_;have F:=aI rI @List.length_map.{0,0};iterate 7 refine SF ?_
   simp only[sE,↓reduceIte,simprocAttr,rI];refine AX (hK _ _ _ ?_);clear hK K;refine CT rfl ?_;have F:=rI;refine RF ?_;refine aF ?_;simp only[bS,Tryz.results61,bN,bR,bM,↓sP,sA,tyS,simprocAttr,rI];have hE:eW b=2:=by unfold eW;rw[if_neg (by omega),h2 rfl]
   refine aR [] (.slc []) (.int .i64 2) ?_ ⟨by simp only[gZ,hE];rfl,by rw[hE]⟩;simp[HV.close,HV.closeL,CV.denil,CV.denilL,HV.norm,HV.toC,HV.toCL]
  refine aB fun K hK=>Rg ?_;have F:=aI rI @List.length_map.{0,0};iterate 7 refine SF ?_
  simp only[sE,↓reduceIte,simprocAttr,rI];refine AX (hK _ _ _ ?_);clear hK K;refine aH (b:=decide ((1000:Int)<ls.length)) rfl (fun hb=>?_) (fun hb=>?_)
  ·
   have F:=rI;refine RF ?_;refine aF ?_;simp only[bS,Tryz.results61,bN,bR,bM,↓sP,sA,tyS,simprocAttr,rI];have hE:eW b=2:=by unfold eW;rw[if_neg (by omega),h1 rfl];simp only;rw[if_pos (by simp at hb;omega)]
   refine aR [] (.slc []) (.int .i64 2) ?_ ⟨by simp only[gZ,hE];rfl,by rw[hE]⟩;simp[HV.close,HV.closeL,CV.denil,CV.denilL,HV.norm,HV.toC,HV.toCL]
  refine aK ?_;refine TQ rI ?_;refine AX (hK _ _ _ ?_);clear hK K;have F:=rI;refine RF ?_;refine aF ?_;simp only[bS,Tryz.results61,bN,bR,bM,↓sP,sA,tyS,simprocAttr,rI];have hE:eW b=0:=by unfold eW;rw[if_neg (by omega),h1 rfl];simp only;rw[if_neg (by simp at hb;omega)]
  refine aR [32] (.slc (ls.map lsC)) (.int .i64 0) ?_ ⟨by simp only[gZ,hE,h1 rfl];rfl,by rw[hE]⟩;simp[HV.close,fob_at,upd_at,HV.norm,HV.toC,HV.closeL,HV.toCL,CV.denil,dE]
 refine aN ?_;refine gQ 4 0 71 1 rfl rfl rfl rfl ?_;refine bF (α:={y:aG×List (List aG)//DecSt b y.1 y.2}) (fun y=>(fin [(0,.c (.slc (y.1.1.map u8))),(4,.own 32 y.1.2.length),(5,.ptr 24 0)],fob [(24,.box 4 (.c (.bool true))),(32,.row 71 1 (y.1.2.map lsC))])) 100 (fun y=>y.1.1.length) ⟨(b,[]),DecSt.init b⟩ (fF) ?_;rintro⟨⟨rest,ls⟩,hst⟩;simp only at hst;have hr1:=hst.2.1;have hr2:=hst.2.2;refine aB fun K hK=>?_;have F:=aI rI @List.length_map.{0,0};refine RF ?_;refine aH (b:=decide ((0:Int)<rest.length)) rfl (fun hb=>?_) (fun hb=>?_)
 ·
  refine aK ?_;refine TQ rI ?_;refine AX (hK _ _ _ ?_);clear hK K;refine aN ?_;have hne:rest≠[]:=by rintro rfl;simp at hb
  clear hb;refine aB fun K hK=>bY (by kernel_rfl) ?_;simp only[sR,simprocAttr];have F:=aI rI @denilL_u8;refine SGF ?_;refine eB (g:=none) 116 rfl rfl fun K' hK'=>?_;simp only[iT,kW,sH,↓sP,sA,tyS,simprocAttr,rI,denilL_u8];repeat refine AI ?_
  refine dO (by first|rfl|simp) ?_;try simp only[sH,↓sP,sA,tyS,simprocAttr,rI,denilL_u8]
  refine AX (hK' _ _ ?_);clear hK' K';refine aZ (g:=none) rfl rfl fun K' hK'=>T6 ?_;refine aY6 (args:=[_,_]) (cJ2 rest 10 (by omega)) ⟨rfl,rfl,rfl,rfl⟩ ?_;rintro u v x ⟨li,re,fd,rfl,rfl,rfl,hcut⟩;have hlt:=hcut.lt hne;refine AX (hK' _ _ ?_);clear hK' K';iterate 7 refine SGF ?_
  simp only[sE,↓reduceIte,simprocAttr,rI];refine AX (hK _ _ _ ?_);clear hK K;have F:=rI;refine RF ?_;refine aB fun K hK=>?_;refine aB fun K hK=>bY (by kernel_rfl) ?_;simp only[sR,simprocAttr];refine SG0 ?_ (e:=fun _ h_=>by simp only[sH,↓sP,sA,tyS,simprocAttr,rI,denilL_u8,nN,iW,List.range',List.map_cons,List.map_nil];exact AX h_);refine eB (g:=none) 160 rfl rfl fun K' hK'=>?_;simp only[iT,kW,sH,↓sP,sA,tyS,simprocAttr,rI,denilL_u8,nN,iW,List.range',List.map_cons,List.map_nil];repeat refine AI ?_
  refine dO (by first|rfl|simp) ?_;try simp only[sH,↓sP,sA,tyS,simprocAttr,rI,denilL_u8,nN,iW,List.range',List.map_cons,List.map_nil]
  refine AX (hK' _ _ ?_);clear hK' K';refine aZ (g:=none) rfl rfl fun K' hK'=>?_;simp only[sH,↓sP,sA,tyS,simprocAttr,rI,denilL_u8,nN,iW,List.range',List.map_cons,List.map_nil];refine uP (args:=[_,_]) (bN6 li 32) (by simp) ⟨rfl,rfl,rfl,rfl⟩ ?_;refine AX (hK' _ _ ?_);clear hK' K';simp only[sE,↓reduceIte,simprocAttr,rI];refine AX (hK _ _ _ ?_);clear hK K;refine aN ?_;refine dQ 152 0 9 1 rfl rfl rfl rfl ?_;refine aD8 (ids:=[164,165,166]) (fin [(0,.c (.slc (rest.map u8))),(4,.own 32 ls.length),(5,.ptr 24 0),(7,.c (.slc (re.map u8))),(8,.c (.bool fd)),(9,.ptr 152 0)]) (fun i=>fob [(24,.box 4 (.c (.bool true))),(32,.row 71 1 (ls.map lsC)),(152,.box 71 (.own 168 i)),(168,.row 9 1 ((wsT li i).map .str))]) 200 (fun i=>aR5 li i) (fun p hp=>by simp at hp) (bA4 li 32 (by omega)) rfl rfl (by decide) ?_ ?_ ?_ ?_ ?_ rfl rfl ?_ ?_
  ·
   intro j x hx
   match j,hx with
   |0,hx=>cases hx;rfl
   |1,hx=>cases hx;rfl
   |2,hx=>cases hx;rfl
  · exact aM (by omega) (by simp[aW,fin_at,finA_at,upd_at,HV.men,HV.menL,HV.norm,HV.toC,HV.toCL]) (by simp[aX,fob_at,upd_at,none0_at,bT,nN,wsT,HO.men,HV.men,HV.menL,HV.norm,HV.toC,HV.toCL])
  · intro id hid;simp only[List.mem_cons,List.not_mem_nil,or_false]at hid;rcases hid with rfl|rfl|rfl<;>rfl
  · intro x hx;obtain⟨p,_,rfl⟩:=List.mem_map.1 hx;rfl
  · intro p hp;simp only[List.mem_cons,List.not_mem_nil,or_false]at hp;subst hp;exact Nat.le_of_ble_eq_true rfl
  ·
   intro i hi hΦ K hK;have hi':i<(aU 32 li).length:=by simpa using hi
   have hwl:=qU (r:=li) (Nat.le_of_lt hi');have hsl:=eV 32 li;obtain⟨p,hp⟩: ∃p,p=(aU 32 li)[i]:=⟨_,rfl⟩;have hpl:p.length≤li.length:=by rw[hp];exact nE 32 li _ (List.getElem_mem hi')
   have hx:(List.map (fun p=>[CV.slc (List.map u8 p)]) (aU 32 li))[i]=[CV.slc (p.map u8)]:=by rw[List.getElem_map,hp]
   rw[hx];simp only[yN];have hbc:iS (p.map u8)=some p:=bytesC_map p;refine aD (by kernel_rfl) ?_;refine TQ rI ?_;refine AX (hK _ _ _ ?_);clear hK K;refine aN ?_;refine aB fun K hK=>Rg ?_;have F:=aI rI hbc;iterate 2 refine SF ?_
   refine HS rfl rfl fun K' hK'=>T6 ?_;refine D1 (cR2 p (by omega)) ?_;rintro u v ⟨rfl,rfl⟩;refine AX (hK' _ _ ?_);clear hK' K';iterate 5 refine SF ?_
   simp only[sE,↓reduceIte,simprocAttr,rI];refine AX (hK _ _ _ ?_);clear hK K;refine aB fun K hK=>?_;have F:=rI;refine RF ?_;refine aH (b:=!(unW p).isSome) rfl (fun hb=>?_) (fun hb=>?_)
   · refine RF ?_;refine bA ?_;refine TQ rI ?_;clear hK K;clear hK K;exact key false ls _ _ _ (fun h=>by cases h) (fun _=>hst.bad hcut hne (bW3 hi' (by rw[←hp];simpa using hb))) (by omega) (fF)
   refine aK ?_;refine TQ rI ?_;refine AX (hK _ _ _ ?_);clear hK K;refine Rg ?_;have F:=aI rI (aI @List.length_append.{0} (aI @List.length_map.{0,0} hwl));iterate 5 refine SF ?_
   simp only[sE,↓reduceIte,simprocAttr,rI];refine⟨(show Fits 200 _ _ (fin []) _ 200 from aM (by omega) trivial ?_),aE4 hi' hΦ (by rw[←hp];simpa using hb)⟩;rw[aR6 hi',←hp];simp[aX,fob_at,upd_at,none0_at,bT,HO.men,HV.men,HV.menL,HV.norm,HV.toC,HV.toCL]
  intro hΦ;simp only[sE,↓reduceIte,simprocAttr,rI];rw[List.length_map]at hΦ⊢;have hwl:=qU (r:=li) (Nat.le_refl _);have hul:=cH1 hΦ;have hsl:=eV 32 li;obtain⟨ws,hws⟩: ∃ws,ws=wsT li (aU 32 li).length:=⟨_,rfl⟩;rw[←hws]at hul hwl;rw[←hws,←hwl];refine AX (hK _ _ _ ?_);clear hK K;refine aB fun K hK=>?_;cases fd
  ·
   refine cR [168] (bE (fr2:=fin [(0,.c (.slc (rest.map u8))),(4,.own 32 ls.length),(5,.ptr 24 0),(7,.c (.slc (re.map u8))),(8,.c (.bool false)),(9,.ptr 152 0)]) (ob2:=fob [(24,.box 4 (.c (.bool true))),(32,.row 71 1 (ls.map lsC)),(152,.box 71 (.c (.slc (ws.map .str))))]) (nx2:=300) (aM (by omega) (by simp[aW,dA,fin_at,finA_at,upd_at,fob_at,HV.close,HV.closeL,CV.denil,CV.denilL,denilL_u8,HV.men,HV.menL,HV.norm,HV.toC,HV.toCL]) (by simp[aX,dL,fob_at,upd_at,none0_at,bT,HO.close,HV.close,HV.closeL,CV.denil,denilL_str,HO.men,HV.men,HV.menL,HV.norm,HV.toC,HV.toCL])) ?_);refine aB fun K hK=>Rg ?_;iterate 7 refine SF ?_
   simp only[sE,↓reduceIte,simprocAttr,rI];refine AX (hK _ _ _ ?_);clear hK K;refine CT rfl ?_;refine RF ?_;refine bA ?_;refine TQ rI ?_;clear hK K;exact key false ls _ _ _ (fun h=>by cases h) (fun _=>hst.bad0 hcut hne) (by omega) (fF)
  refine cR [168] (bE (fr2:=fin [(0,.c (.slc (rest.map u8))),(4,.own 32 ls.length),(5,.ptr 24 0),(7,.c (.slc (re.map u8))),(8,.c (.bool true)),(9,.ptr 152 0)]) (ob2:=fob [(24,.box 4 (.c (.bool true))),(32,.row 71 1 (ls.map lsC)),(152,.box 71 (.c (.slc (ws.map .str))))]) (nx2:=300) (aM (by omega) (by simp[aW,dA,fin_at,finA_at,upd_at,fob_at,HV.close,HV.closeL,CV.denil,CV.denilL,denilL_u8,HV.men,HV.menL,HV.norm,HV.toC,HV.toCL]) (by simp[aX,dL,fob_at,upd_at,none0_at,bT,HO.close,HV.close,HV.closeL,CV.denil,denilL_str,HO.men,HV.men,HV.menL,HV.norm,HV.toC,HV.toCL])) ?_);refine aB fun K hK=>Rg ?_;iterate 4 refine SF ?_
  refine aE (g:=some (44,false)) rfl rfl fun K' hK'=>T6 ?_;refine C1 (aS5 ws (by omega)) ?_;rintro u rfl;refine AX (hK' _ _ ?_);clear hK' K';iterate 2 refine SF ?_
  simp only[sE,↓reduceIte,simprocAttr,rI];refine AX (hK _ _ _ ?_);clear hK K;refine aH (b:=nD ws !=0) rfl (fun hb=>?_) (fun hb=>?_)
  · refine RF ?_;refine bA ?_;refine TQ rI ?_;clear hK K;exact key false ls _ _ _ (fun h=>by cases h) (fun _=>hst.bad hcut hne (by rw[hul,if_neg];unfold okL;simpa using hb)) (by omega) (fF)
  refine aK ?_;refine TQ rI ?_;refine AX (hK _ _ _ ?_);clear hK K;refine Rg ?_;have F:=aI rI (aI @List.length_append.{0} @List.length_map.{0,0});iterate 7 refine SF ?_
  simp only[sE,↓reduceIte,simprocAttr,rI];have hok:okL ws=true:=by unfold okL;simpa using hb
  refine⟨⟨(re,ls++[ws]),hst.next hcut hne (by rw[hul,if_pos hok])⟩,aM (by omega) ?_ ?_,hlt.1⟩
  · simp[aW,upd_at,fin_at,HV.men]
  simp only[aX,List.map_append];exact⟨rfl,by omega,trivial,rfl,by omega,trivial,trivial⟩
 refine bA ?_;refine TQ rI ?_;clear hK K;have hr0:rest=[]:=by simpa using hb
 subst hr0;exact key true ls _ _ _ (fun _=>hst.fin) (fun h=>by cases h) (by omega) (fF)
theorem cJ4 (s:aG):eU Tryz.prog 151 [.str s] (fun u v=>u= .int .i64 ((cP s).getD 0)∧v= .bool (cP s).isSome):=by
 refine FW Tryz.func151 ?_;refine R0 ?_;refine aB fun K hK=>?_;have key: ∀fr ob nx,fT s=false→Fits 0 fr ob (fin [(0,.c (.str s))]) (fob []) 100→K fr ob nx:=by
  intro fr ob nx hbad hf;refine hK _ _ _ (bE hf ?_);clear hf hK K;have hlen:s.length≤13:=by
   simp only[fT,Bool.or_eq_false_iff,decide_eq_false_iff_not]at hbad;omega
  refine R0 ?_;refine aB fun K hK=>?_;refine R0 ?_;refine aN ?_;refine bF (α:={y:Nat×Nat//DgSt s y.1 y.2}) (fun y=>(fin [(0,.c (.str s)),(4,.c (.int .i64 y.1.2)),(5,.c (.int .i64 y.1.1))],fob [])) 200 (fun y=>s.length-y.1.1) ⟨(0,0),DgSt.init s⟩ (fF) ?_;rintro⟨⟨i,n⟩,hst⟩;simp only at hst;have hi:=hst.1;have hnl:=hst.lt hlen;refine aB fun K hK=>?_;refine aB fun K hK=>Rg ?_;iterate 4 refine S0 ?_
  refine T2 (hK _ _ _ ?_);clear hK K;refine aH (b:=decide ((i:Int)<s.length)) rfl (fun hb=>?_) (fun hb=>?_)
  ·
   have hlt:i<s.length:=by simpa using hb
   clear hb;have hgd:s.getD i 0=s[i]:=by simp[hlt]
   have hdi:=aR8 s[i];refine aK ?_;refine T0 (hK _ _ _ ?_);clear hK K;refine aB fun K hK=>?_;refine aN ?_;refine aB fun K hK=>?_;have key2: ∀fr ob nx,kZ s[i]=true→Fits 0 fr ob (fin [(0,.c (.str s)),(4,.c (.int .i64 n)),(5,.c (.int .i64 i))]) (fob []) 300→K fr ob nx:=by
    intro fr ob nx hd hf;refine hK _ _ _ (bE hf ?_);clear hf hK K;have hd2:48≤s[i].toNat∧s[i].toNat≤57:=by simpa[kZ]using hd
    have e1:IntKind.i64.wrap (10*(n:Int))=((10*n:Nat):Int):=by rw[IntWalk.i64_in _ (by omega)];omega
    have e2:IntKind.u8.wrap ((s[i].toNat:Int)-48)=((s[i].toNat-48:Nat):Int):=by rw[IntWalk.u8_in _ (by omega)];omega
    have e3:IntKind.i64.wrap ((s[i].toNat-48:Nat):Int)=((s[i].toNat-48:Nat):Int):=by rw[IntWalk.i64_in _ (by omega)]
    have e4:IntKind.i64.wrap (((10*n:Nat):Int)+((s[i].toNat-48:Nat):Int))=((10*n+(s[i].toNat-48):Nat):Int):=by rw[IntWalk.i64_in _ (by omega)];omega
    refine Rg ?_;iterate 9 refine S0 ?_ (e:=fun _ h_=>by simp only[sH,↓sP,sA,tyS,simprocAttr,Int.natCast_nonneg,Int.ofNat_lt,hlt,hgd,e1,e2,e3,e4];exact AX h_)
    refine T2 (hK _ _ _ ?_);clear hK K;refine aD (by kernel_rfl) ?_;refine TQ (fA i) ?_;refine⟨⟨(i+1,10*n+(s[i].toNat-48)),hst.next hlt hd⟩,fF,?_⟩;show s.length-(i+1)<s.length-i;omega
   refine aB fun K hK=>Rg ?_;iterate 5 refine S0 ?_ (e:=fun _ h_=>by simp only[sH,↓sP,sA,tyS,simprocAttr,Int.natCast_nonneg,Int.ofNat_lt,hlt,hgd];exact AX h_)
   refine aL 33 rfl (fun h7_33=>?_) (fun h7_33=>?_)
   ·
    iterate 5 refine S0 ?_ (e:=fun _ h_=>by simp only[sH,↓sP,sA,tyS,simprocAttr,Int.natCast_nonneg,Int.ofNat_lt,hlt,hgd,h7_33];exact AX h_)
    refine T2 (hK _ _ _ ?_);clear hK K;refine CT rfl ?_;refine R0 ?_;refine aF (RT Tryz.results151 ?_);have hd:kZ s[i]=false:=by simp only[kZ,Bool.and_eq_false_iff,decide_eq_false_iff_not];simp at h7_33;omega
    have hn:=pJ (hst.bad hlt hd);exact aR [] (.int .i64 0) (.bool false) rfl ⟨by rw[hn];rfl,by rw[hn];rfl⟩
   iterate 5 refine S0 ?_ (e:=fun _ h_=>by simp only[sH,↓sP,sA,tyS,simprocAttr,Int.natCast_nonneg,Int.ofNat_lt,hlt,hgd,h7_33];exact AX h_)
   refine aL 38 rfl (fun h7_38=>?_) (fun h7_38=>?_)
   ·
    simp only[h7_38];refine T2 (hK _ _ _ ?_);clear hK K;refine CT rfl ?_;refine R0 ?_;refine aF (RT Tryz.results151 ?_);have hd:kZ s[i]=false:=by simp only[kZ,Bool.and_eq_false_iff,decide_eq_false_iff_not];simp at h7_38;omega
    have hn:=pJ (hst.bad hlt hd);exact aR [] (.int .i64 0) (.bool false) rfl ⟨by rw[hn];rfl,by rw[hn];rfl⟩
   simp only[h7_38];refine T2 (hK _ _ _ ?_);clear hK K;refine CF rfl ?_;refine aK (T3 ?_);exact key2 _ _ _ (by simp only[kZ,Bool.and_eq_true,decide_eq_true_eq];simp at h7_33 h7_38;omega) (fF)
  refine bA (T3 ?_);clear hK K;refine AX (hK _ _ _ ?_);clear hK K;refine aB fun K hK=>?_;have hfin:=hst.fin (by simp at hb;omega);clear hb;refine R0 ?_;refine aH (b:=decide ((1099511627776:Int)<(n:Int))) rfl (fun hb=>?_) (fun hb=>?_)
  · refine R0 ?_;refine aF (RT Tryz.results151 ?_);have hn:=aR7 hfin (by simp at hb;omega);exact aR [] (.int .i64 0) (.bool false) rfl ⟨by rw[hn];rfl,by rw[hn];rfl⟩
  refine aK ?_;refine T0 (hK _ _ _ ?_);clear hK K;refine R0 ?_;refine aF (RT Tryz.results151 ?_);have hn:=aK3 hbad hfin (by simp at hb;omega);exact aR [] (.int .i64 n) (.bool true) rfl ⟨by rw[hn];rfl,by rw[hn];rfl⟩
 refine aB fun K hK=>Rg ?_;iterate 4 refine S0 ?_
 refine aL 8 rfl (fun h1_8=>?_) (fun h1_8=>?_)
 ·
  have F:=h1_8;iterate 14 refine SF ?_
  refine T2 (hK _ _ _ ?_);clear hK K;refine CT rfl ?_;refine R0 ?_;refine aF (RT Tryz.results151 ?_);have hn:cP s=none:=oL (by simp only[fT,Bool.or_eq_true,decide_eq_true_eq];simp at h1_8;left;left;omega);exact aR [] (.int .i64 0) (.bool false) rfl ⟨by rw[hn];rfl,by rw[hn];rfl⟩
 have F:=h1_8;iterate 5 refine SF ?_
 refine aL 12 rfl (fun h1_12=>?_) (fun h1_12=>?_)
 ·
  have F:=aI h1_8 h1_12;iterate 9 refine SF ?_
  refine T2 (hK _ _ _ ?_);clear hK K;refine CT rfl ?_;refine R0 ?_;refine aF (RT Tryz.results151 ?_);have hn:cP s=none:=oL (by simp only[fT,Bool.or_eq_true,decide_eq_true_eq];simp at h1_12;left;right;omega);exact aR [] (.int .i64 0) (.bool false) rfl ⟨by rw[hn];rfl,by rw[hn];rfl⟩
 have F:=aI h1_8 h1_12;iterate 4 refine SF ?_
 refine aL 17 rfl (fun h1_17=>?_) (fun h1_17=>?_)
 ·
  have F:=aI h1_8 (aI h1_12 h1_17);refine SF ?_;refine aE (g:=some (18,true)) rfl rfl fun K' hK'=>T6 ?_;refine⟨by simp at h1_17;omega,?_⟩;refine AX (hK' _ _ ?_);clear hK' K';iterate 3 refine SF ?_
  refine aL 21 rfl (fun h1_21=>?_) (fun h1_21=>?_)
  ·
   simp only[h1_21];refine T2 (hK _ _ _ ?_);clear hK K;refine CT rfl ?_;refine R0 ?_;refine aF (RT Tryz.results151 ?_);have hn:cP s=none:=oL (by
    simp only[fT,Bool.or_eq_true,Bool.and_eq_true,decide_eq_true_eq,beq_iff_eq];right;refine⟨by simp at h1_17;omega,UInt8.toNat_inj.1 ?_⟩;simp only[beq_iff_eq]at h1_21;show(s.getD 0 0).toNat=48;omega)
   exact aR [] (.int .i64 0) (.bool false) rfl ⟨by rw[hn];rfl,by rw[hn];rfl⟩
  simp only[h1_21];refine T2 (hK _ _ _ ?_);clear hK K;refine CF rfl ?_;refine aK (T3 ?_);refine key _ _ _ ?_ (fF);simp only[fT,Bool.or_eq_false_iff,Bool.and_eq_false_iff,decide_eq_false_iff_not,beq_eq_false_iff_ne,ne_eq];simp only[decide_eq_false_iff_not,decide_eq_true_eq]at h1_8 h1_12;refine⟨⟨by omega,by omega⟩,?_⟩;first
   |(right;intro h0;rw[h0]at h1_21;simp at h1_21)
   |(left;simp at h1_17;omega)
 have F:=aI h1_8 (aI h1_12 h1_17);iterate 5 refine SF ?_
 refine T2 (hK _ _ _ ?_);clear hK K;refine CF rfl ?_;refine aK (T3 ?_);refine key _ _ _ ?_ (fF);simp only[fT,Bool.or_eq_false_iff,Bool.and_eq_false_iff,decide_eq_false_iff_not,beq_eq_false_iff_ne,ne_eq];simp only[decide_eq_false_iff_not,decide_eq_true_eq]at h1_8 h1_12;refine⟨⟨by omega,by omega⟩,?_⟩;first
  |(right;intro h0;rw[h0]at h1_21;simp at h1_21)
  |(left;simp at h1_17;omega)
theorem tL (s:aG):eU Tryz.prog 68 [.str s] (fun u v=>u= .int .i64 ((cP s).getD 0)∧v= .bool (cP s).isSome):=by
 refine FW Tryz.func68 ?_;refine R0 ?_;refine aB fun K hK=>?_;have key: ∀fr ob nx,fT s=false→Fits 0 fr ob (fin [(0,.c (.str s))]) (fob []) 100→K fr ob nx:=by
  intro fr ob nx hbad hf;refine hK _ _ _ (bE hf ?_);clear hf hK K;have hlen:s.length≤13:=by
   simp only[fT,Bool.or_eq_false_iff,decide_eq_false_iff_not]at hbad;omega
  refine R0 ?_;refine aB fun K hK=>?_;refine R0 ?_;refine aN ?_;refine bF (α:={y:Nat×Nat//DgSt s y.1 y.2}) (fun y=>(fin [(0,.c (.str s)),(4,.c (.int .i64 y.1.2)),(5,.c (.int .i64 y.1.1))],fob [])) 200 (fun y=>s.length-y.1.1) ⟨(0,0),DgSt.init s⟩ (fF) ?_;rintro⟨⟨i,n⟩,hst⟩;simp only at hst;have hi:=hst.1;have hnl:=hst.lt hlen;refine aB fun K hK=>?_;refine aB fun K hK=>Rg ?_;iterate 4 refine S0 ?_
  refine T2 (hK _ _ _ ?_);clear hK K;refine aH (b:=decide ((i:Int)<s.length)) rfl (fun hb=>?_) (fun hb=>?_)
  ·
   have hlt:i<s.length:=by simpa using hb
   clear hb;have hgd:s.getD i 0=s[i]:=by simp[hlt]
   have hdi:=aR8 s[i];refine aK ?_;refine T0 (hK _ _ _ ?_);clear hK K;refine aB fun K hK=>?_;refine aN ?_;refine aB fun K hK=>?_;have key2: ∀fr ob nx,kZ s[i]=true→Fits 0 fr ob (fin [(0,.c (.str s)),(4,.c (.int .i64 n)),(5,.c (.int .i64 i))]) (fob []) 300→K fr ob nx:=by
    intro fr ob nx hd hf;refine hK _ _ _ (bE hf ?_);clear hf hK K;have hd2:48≤s[i].toNat∧s[i].toNat≤57:=by simpa[kZ]using hd
    have e1:IntKind.i64.wrap (10*(n:Int))=((10*n:Nat):Int):=by rw[IntWalk.i64_in _ (by omega)];omega
    have e2:IntKind.u8.wrap ((s[i].toNat:Int)-48)=((s[i].toNat-48:Nat):Int):=by rw[IntWalk.u8_in _ (by omega)];omega
    have e3:IntKind.i64.wrap ((s[i].toNat-48:Nat):Int)=((s[i].toNat-48:Nat):Int):=by rw[IntWalk.i64_in _ (by omega)]
    have e4:IntKind.i64.wrap (((10*n:Nat):Int)+((s[i].toNat-48:Nat):Int))=((10*n+(s[i].toNat-48):Nat):Int):=by rw[IntWalk.i64_in _ (by omega)];omega
    refine Rg ?_;iterate 9 refine S0 ?_ (e:=fun _ h_=>by simp only[sH,↓sP,sA,tyS,simprocAttr,Int.natCast_nonneg,Int.ofNat_lt,hlt,hgd,e1,e2,e3,e4];exact AX h_)
    refine T2 (hK _ _ _ ?_);clear hK K;refine aD (by kernel_rfl) ?_;refine TQ (fA i) ?_;refine⟨⟨(i+1,10*n+(s[i].toNat-48)),hst.next hlt hd⟩,fF,?_⟩;show s.length-(i+1)<s.length-i;omega
   refine aB fun K hK=>Rg ?_;iterate 5 refine S0 ?_ (e:=fun _ h_=>by simp only[sH,↓sP,sA,tyS,simprocAttr,Int.natCast_nonneg,Int.ofNat_lt,hlt,hgd];exact AX h_)
   refine aL 32 rfl (fun h7_32=>?_) (fun h7_32=>?_)
   ·
    iterate 5 refine S0 ?_ (e:=fun _ h_=>by simp only[sH,↓sP,sA,tyS,simprocAttr,Int.natCast_nonneg,Int.ofNat_lt,hlt,hgd,h7_32];exact AX h_)
    refine T2 (hK _ _ _ ?_);clear hK K;refine CT rfl ?_;refine R0 ?_;refine aF (RT Tryz.results68 ?_);have hd:kZ s[i]=false:=by simp only[kZ,Bool.and_eq_false_iff,decide_eq_false_iff_not];simp at h7_32;omega
    have hn:=pJ (hst.bad hlt hd);exact aR [] (.int .i64 0) (.bool false) rfl ⟨by rw[hn];rfl,by rw[hn];rfl⟩
   iterate 5 refine S0 ?_ (e:=fun _ h_=>by simp only[sH,↓sP,sA,tyS,simprocAttr,Int.natCast_nonneg,Int.ofNat_lt,hlt,hgd,h7_32];exact AX h_)
   refine aL 37 rfl (fun h7_37=>?_) (fun h7_37=>?_)
   ·
    simp only[h7_37];refine T2 (hK _ _ _ ?_);clear hK K;refine CT rfl ?_;refine R0 ?_;refine aF (RT Tryz.results68 ?_);have hd:kZ s[i]=false:=by simp only[kZ,Bool.and_eq_false_iff,decide_eq_false_iff_not];simp at h7_37;omega
    have hn:=pJ (hst.bad hlt hd);exact aR [] (.int .i64 0) (.bool false) rfl ⟨by rw[hn];rfl,by rw[hn];rfl⟩
   simp only[h7_37];refine T2 (hK _ _ _ ?_);clear hK K;refine CF rfl ?_;refine aK (T3 ?_);exact key2 _ _ _ (by simp only[kZ,Bool.and_eq_true,decide_eq_true_eq];simp at h7_32 h7_37;omega) (fF)
  refine bA (T3 ?_);clear hK K;refine AX (hK _ _ _ ?_);clear hK K;refine aB fun K hK=>?_;have hfin:=hst.fin (by simp at hb;omega);clear hb;refine R0 ?_;refine aH (b:=decide ((1099511627776:Int)<(n:Int))) rfl (fun hb=>?_) (fun hb=>?_)
  · refine R0 ?_;refine aF (RT Tryz.results68 ?_);have hn:=aR7 hfin (by simp at hb;omega);exact aR [] (.int .i64 0) (.bool false) rfl ⟨by rw[hn];rfl,by rw[hn];rfl⟩
  refine aK ?_;refine T0 (hK _ _ _ ?_);clear hK K;refine R0 ?_;refine aF (RT Tryz.results68 ?_);have hn:=aK3 hbad hfin (by simp at hb;omega);exact aR [] (.int .i64 n) (.bool true) rfl ⟨by rw[hn];rfl,by rw[hn];rfl⟩
 refine aB fun K hK=>Rg ?_;iterate 3 refine S0 ?_
 refine aL 7 rfl (fun h1_7=>?_) (fun h1_7=>?_)
 ·
  have F:=h1_7;iterate 14 refine SF ?_
  refine T2 (hK _ _ _ ?_);clear hK K;refine CT rfl ?_;refine R0 ?_;refine aF (RT Tryz.results68 ?_);have hs:s=[]:=by simpa using h1_7
  subst hs;exact aR [] (.int .i64 0) (.bool false) rfl ⟨rfl,rfl⟩
 have F:=h1_7;iterate 5 refine SF ?_
 refine aL 11 rfl (fun h1_11=>?_) (fun h1_11=>?_)
 ·
  have F:=aI h1_7 h1_11;iterate 9 refine SF ?_
  refine T2 (hK _ _ _ ?_);clear hK K;refine CT rfl ?_;refine R0 ?_;refine aF (RT Tryz.results68 ?_);have hn:cP s=none:=oL (by simp only[fT,Bool.or_eq_true,decide_eq_true_eq];simp at h1_11;left;right;omega);exact aR [] (.int .i64 0) (.bool false) rfl ⟨by rw[hn];rfl,by rw[hn];rfl⟩
 have F:=aI h1_7 h1_11;refine SF ?_;refine aE (g:=some (13,false)) rfl rfl fun K' hK'=>T6 ?_;refine⟨by have:=List.length_pos_iff.2 (show s≠[]by simpa using h1_7);omega,?_⟩;refine AX (hK' _ _ ?_);clear hK' K';iterate 2 refine SF ?_
 refine aL 16 rfl (fun h1_16=>?_) (fun h1_16=>?_)
 ·
  have F:=aI h1_7 (aI h1_11 h1_16);iterate 5 refine SF ?_
  refine aL 20 rfl (fun h1_20=>?_) (fun h1_20=>?_)
  ·
   simp only[h1_20];refine T2 (hK _ _ _ ?_);clear hK K;refine CT rfl ?_;refine R0 ?_;refine aF (RT Tryz.results68 ?_);have hn:cP s=none:=oL (by
    simp only[fT,Bool.or_eq_true,Bool.and_eq_true,decide_eq_true_eq,beq_iff_eq];right;refine⟨by simp at h1_20;omega,UInt8.toNat_inj.1 ?_⟩;simp only[beq_iff_eq]at h1_16;show(s.getD 0 0).toNat=48;omega)
   exact aR [] (.int .i64 0) (.bool false) rfl ⟨by rw[hn];rfl,by rw[hn];rfl⟩
  simp only[h1_20];refine T2 (hK _ _ _ ?_);clear hK K;refine CF rfl ?_;refine aK (T3 ?_);refine key _ _ _ ?_ (fF);have hs:=List.length_pos_iff.2 (show s≠[]by simpa using h1_7);simp only[fT,Bool.or_eq_false_iff,Bool.and_eq_false_iff,decide_eq_false_iff_not,beq_eq_false_iff_ne,ne_eq];simp only[decide_eq_false_iff_not,decide_eq_true_eq]at h1_11;refine⟨⟨by omega,by omega⟩,?_⟩;first
   |(left;simp at h1_20;omega)
   |(right;intro h0;rw[h0]at h1_16;simp at h1_16)
 have F:=aI h1_7 (aI h1_11 h1_16);iterate 5 refine SF ?_
 refine T2 (hK _ _ _ ?_);clear hK K;refine CF rfl ?_;refine aK (T3 ?_);refine key _ _ _ ?_ (fF);have hs:=List.length_pos_iff.2 (show s≠[]by simpa using h1_7);simp only[fT,Bool.or_eq_false_iff,Bool.and_eq_false_iff,decide_eq_false_iff_not,beq_eq_false_iff_ne,ne_eq];simp only[decide_eq_false_iff_not,decide_eq_true_eq]at h1_11;refine⟨⟨by omega,by omega⟩,?_⟩;first
  |(left;simp at h1_20;omega)
  |(right;intro h0;rw[h0]at h1_16;simp at h1_16)
theorem aS7 (c:UInt8):cJ Tryz.prog 102 [.int .u8 c.toNat] (fun v=>v= .int .i64 (valH c:Nat)):=by
 refine FW Tryz.func102 ?_;refine R0 ?_;refine aB fun K hK=>?_;refine aB fun K hK=>Rg ?_;iterate 3 refine S0 ?_
 refine aL 4 rfl (fun h1_4=>?_) (fun h1_4=>?_)
 ·
  have F:=h1_4;iterate 3 refine SF ?_
  refine aL 7 rfl (fun h1_7=>?_) (fun h1_7=>?_)
  ·
   simp only[h1_7];refine T2 (hK _ _ _ ?_);clear hK K;refine CT rfl ?_;have e1:IntKind.u8.wrap ((c.toNat:Int)-48)=((c.toNat-48:Nat):Int):=by simp at h1_4 h1_7;rw[IntWalk.u8_in _ (by omega)];omega
   have e2:IntKind.i64.wrap ((c.toNat-48:Nat):Int)=((c.toNat-48:Nat):Int):=by have:=c.toNat_lt;rw[IntWalk.i64_in _ (by omega)]
   refine aB fun K hK=>Rg ?_;have F:=aI e1 (aI e2 (aI h1_4 h1_7));iterate 4 refine SF ?_
   refine T2 (hK _ _ _ ?_);clear hK K;refine aF (RT Tryz.results102 ?_);refine aJ [] _ rfl ?_;simp only[decide_eq_true_eq,decide_eq_false_iff_not]at*;refine congrArg (CV.int IntKind.i64) ?_;unfold valH;split<;>(try split)<;>omega
  simp only[h1_7];refine T2 (hK _ _ _ ?_);clear hK K;refine CF rfl ?_;refine aK ?_;refine T0 (hK _ _ _ ?_);clear hK K;refine aB fun K hK=>?_;refine aB fun K hK=>Rg ?_;have F:=aI h1_4 h1_7;iterate 3 refine SF ?_
  refine aL 13 rfl (fun h3_13=>?_) (fun h3_13=>?_)
  ·
   have F:=aI h1_4 (aI h1_7 h3_13);iterate 3 refine SF ?_
   refine aL 16 rfl (fun h3_16=>?_) (fun h3_16=>?_)
   ·
    simp only[h3_16];refine T2 (hK _ _ _ ?_);clear hK K;refine CT rfl ?_;have e1:IntKind.u8.wrap ((c.toNat:Int)-65)=((c.toNat-65:Nat):Int):=by simp at h3_13 h3_16;rw[IntWalk.u8_in _ (by omega)];omega
    have e2:IntKind.i64.wrap ((c.toNat-65:Nat):Int)=((c.toNat-65:Nat):Int):=by have:=c.toNat_lt;rw[IntWalk.i64_in _ (by omega)]
    have e3:IntKind.i64.wrap (((c.toNat-65:Nat):Int)+10)=((c.toNat-65+10:Nat):Int):=by have:=c.toNat_lt;rw[IntWalk.i64_in _ (by omega)];omega
    refine aB fun K hK=>Rg ?_;have F:=aI e1 (aI e2 (aI e3 (aI h1_4 (aI h1_7 (aI h3_13 h3_16)))));iterate 5 refine SF ?_
    refine T2 (hK _ _ _ ?_);clear hK K;refine aF (RT Tryz.results102 ?_);refine aJ [] _ rfl ?_;simp only[decide_eq_true_eq,decide_eq_false_iff_not]at*;refine congrArg (CV.int IntKind.i64) ?_;unfold valH;split<;>(try split)<;>omega
   simp only[h3_16];refine T2 (hK _ _ _ ?_);clear hK K;refine CF rfl ?_;refine aK ?_;refine T0 (hK _ _ _ ?_);clear hK K;refine R0 ?_;refine aF (RT Tryz.results102 ?_);refine aJ [] _ rfl ?_;simp only[decide_eq_true_eq,decide_eq_false_iff_not]at*;refine congrArg (CV.int IntKind.i64) ?_;unfold valH;split<;>(try split)<;>omega
  have F:=aI h1_4 (aI h1_7 h3_13);iterate 3 refine SF ?_
  refine T2 (hK _ _ _ ?_);clear hK K;refine CF rfl ?_;refine aK ?_;refine T0 (hK _ _ _ ?_);clear hK K;refine R0 ?_;refine aF (RT Tryz.results102 ?_);refine aJ [] _ rfl ?_;simp only[decide_eq_true_eq,decide_eq_false_iff_not]at*;refine congrArg (CV.int IntKind.i64) ?_;unfold valH;split<;>(try split)<;>omega
 have F:=h1_4;iterate 3 refine SF ?_
 refine T2 (hK _ _ _ ?_);clear hK K;refine CF rfl ?_;refine aK ?_;refine T0 (hK _ _ _ ?_);clear hK K;refine aB fun K hK=>?_;refine aB fun K hK=>Rg ?_;iterate 3 refine SF ?_
 refine aL 13 rfl (fun h3_13=>?_) (fun h3_13=>?_)
 ·
  have F:=aI h1_4 h3_13;iterate 3 refine SF ?_
  refine aL 16 rfl (fun h3_16=>?_) (fun h3_16=>?_)
  ·
   simp only[h3_16];refine T2 (hK _ _ _ ?_);clear hK K;refine CT rfl ?_;have e1:IntKind.u8.wrap ((c.toNat:Int)-65)=((c.toNat-65:Nat):Int):=by simp at h3_13 h3_16;rw[IntWalk.u8_in _ (by omega)];omega
   have e2:IntKind.i64.wrap ((c.toNat-65:Nat):Int)=((c.toNat-65:Nat):Int):=by have:=c.toNat_lt;rw[IntWalk.i64_in _ (by omega)]
   have e3:IntKind.i64.wrap (((c.toNat-65:Nat):Int)+10)=((c.toNat-65+10:Nat):Int):=by have:=c.toNat_lt;rw[IntWalk.i64_in _ (by omega)];omega
   refine aB fun K hK=>Rg ?_;have F:=aI e1 (aI e2 (aI e3 (aI h1_4 (aI h3_13 h3_16))));iterate 5 refine SF ?_
   refine T2 (hK _ _ _ ?_);clear hK K;refine aF (RT Tryz.results102 ?_);refine aJ [] _ rfl ?_;simp only[decide_eq_true_eq,decide_eq_false_iff_not]at*;refine congrArg (CV.int IntKind.i64) ?_;unfold valH;split<;>(try split)<;>omega
  simp only[h3_16];refine T2 (hK _ _ _ ?_);clear hK K;refine CF rfl ?_;refine aK ?_;refine T0 (hK _ _ _ ?_);clear hK K;refine R0 ?_;refine aF (RT Tryz.results102 ?_);refine aJ [] _ rfl ?_;simp only[decide_eq_true_eq,decide_eq_false_iff_not]at*;refine congrArg (CV.int IntKind.i64) ?_;unfold valH;split<;>(try split)<;>omega
 have F:=aI h1_4 h3_13;iterate 3 refine SF ?_
 refine T2 (hK _ _ _ ?_);clear hK K;refine CF rfl ?_;refine aK ?_;refine T0 (hK _ _ _ ?_);clear hK K;refine R0 ?_;refine aF (RT Tryz.results102 ?_);refine aJ [] _ rfl ?_;simp only[decide_eq_true_eq,decide_eq_false_iff_not]at*;refine congrArg (CV.int IntKind.i64) ?_;unfold valH;split<;>(try split)<;>omega
end Go.Proofs.YthedbjfipmkpiaaGreatDoor
namespace Go.Hl
open Go Go.Pl
section
variable {P:Program}{n k:Nat}{Q:eM}{fr:Fr}{ob:Ob}{nx:Nat}
end
def cN5 (P:Program)(f:FuncId)(args:List CV)(n:Nat)(T:TypeId)(l:List UInt8)(R:CV→List UInt8→Prop):Prop:=
 HFn P f (args.map .c++[.osl 0 n 0 1 n]) 1 (fob [(0,.box T (.c (.agg (l.map u8))))]) (fun r ob'=> ∃u l',r= .c u∧ob'=fob [(0,.box T (.c (.agg (l'.map u8))))]∧R u l')
theorem zE (args:List CV)(n:Nat)(T:TypeId)(v:CV):LocOk 1 (args.map .c++[.osl 0 n 0 1 n]) (fob [(0,.box T (.c v))]):=by
 refine⟨fun j h=>?_,fun id o h=>?_,HV.menL_append.2 ⟨HV.menL_c,by simp[HV.menL,HV.men]⟩⟩
 ·
  have:j=0:=by omega
  subst this;exact⟨_,rfl⟩
 ·
  simp only[fob_at,fob_nil]at h;split at h
  · rename_i e;subst e;cases h;exact⟨by omega,by simp[HO.men,HV.men]⟩
  · cases h
variable {R:CV→List UInt8→Prop}{T:TypeId}{ob:Ob}
theorem bN7 {P:Program}{av:List Nat}{f:FuncId}{nid id:Nat}{K:HV→Ob→Prop}{args:List CV}{n:Nat}{l:List UInt8}(h:cN5 P f args n T l R)(hid:ob id=some (.box T (.c (.agg (l.map u8)))))(hav:id∉av)(hfree:Free4 ob nid)
  (hK: ∀u l',R u l'→K (.c u) (upd ob id (some (.box T (.c (.agg (l'.map u8))))))):HCall P av f (args.map .c++[.osl id n 0 1 n]) ob nid K:=by
 have h0:sub [id] nid 0=id:=rfl;have hra: ∀(m:Nat→Nat) (a:List CV) (b:List HV),HV.renL m (a.map .c++b)=a.map .c++HV.renL m b:=by
  intro m a b;induction a with
  |nil=>rfl
  |cons x a ih=>simp only[List.map_cons,List.cons_append,HV.renL,HV.ren,ih]
 refine⟨[id],_,_,_,h,zE args n T _,⟨by simp,by simpa using hav⟩,by rw[hra];simp only[HV.renL,HV.ren,h0],fun j o hj=>?_,fun r lob' hR _=>?_⟩
 ·
  simp only[fob_at,fob_nil]at hj;split at hj
  · rename_i e;subst e;cases hj;simpa[HO.ren,HV.ren]using hid
  · cases hj
 ·
  obtain⟨u,l',rfl,rfl,hR⟩:=hR;have e2:cH ob [id] nid (fob [(0,.box T (.c (.agg (l'.map u8))))])=upd ob id (some (.box T (.c (.agg (l'.map u8))))):=by
   funext i;by_cases e:i=id
   · subst e;rw[aT];simp only[cH,List.findIdx?_cons,beq_self_eq_true,if_true,fob_at,Option.map_some,HO.ren,HV.ren]
   ·
    have e':(id==i)=false:=by simp;exact fun h=>e h.symm
    rw[aY _ _ e];simp only[cH,List.findIdx?_cons,e',List.findIdx?_nil,Option.map_none];simp only[Bool.false_eq_true,if_false];split
    ·
     rename_i hr;have h2:[id].length+(i-nid)≠0:=by simp
     rw[fob_at,if_neg h2,fob_nil];exact(hfree.all i hr.1 hr.2).symm
    · rfl
  rw[e2];exact hK u l' hR
theorem pL {l':List UInt8}{r:HV}(u:CV)(hr:(r.close ob []).norm= .c u)(ho:ob 0=some (.box T (.c (.agg (l'.map u8)))))(hR:R u l'):
  iJ 1 r ob (fun r ob'=> ∃u l',r= .c u∧ob'=fob [(0,.box T (.c (.agg (l'.map u8))))]∧R u l'):=by
 refine⟨[],id,.c u,_,⟨u,l',rfl,rfl,hR⟩,hr,fun _ _=>rfl,fun _ _ _ _ h=>h,by simp[HV.men],fun j o h=>?_⟩;simp only[fob_at,fob_nil]at h;split at h
 · rename_i e;subst e;cases h;refine⟨by omega,by simp[HO.men,HV.men],by simp,_,ho,?_⟩;have hd:(CV.agg (l'.map u8)).denil= .agg (l'.map u8):=bX4 l';simp only[HO.ren,HV.ren,HV.close,hd,HV.norm,HV.toC]
 · cases h
end Go.Hl
