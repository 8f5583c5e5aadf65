/- Part of a proof: walks of functions of the program, by contracts, and the rules they use. By an AI agent. -/
import Derived.Test.YtlgckianjabghaaGreatDoorPl11B
set_option maxRecDepth 10000
set_option maxHeartbeats 16000000
set_option linter.unusedSimpArgs false
set_option linter.unusedVariables false
set_option linter.defProp false
namespace Go.Proofs.YtlgckianjabghaaGreatDoor
open Go Go.Hl Go.Pl
theorem cP9 {α:Type}(l:List (List UInt8))(j:Nat)(p:List UInt8)(r:List (List UInt8))(h:l.drop j=p::r): ∃hj:j<(l.map fun p=>[CV.slc (p.map u8)]).length,(l.map fun p=>[CV.slc (p.map u8)])[j]=[CV.slc (p.map u8)]∧l.drop (j+1)=r:=by
 have hj:j<l.length:=by
  rcases H0 j l.length with h'|h'
  · exact h'
  rw[H9 h']at h;cases h
 have h1:=B2 hj;rw[h1]at h;cases h;exact⟨by simpa using hj,by simp,rfl⟩
theorem bE0 (l:List UInt8)(c:UInt8)(hl:l.length<2^40):aL4 Tryz.prog 99 [(23,.slc [u8 c]),(23,.slc (l.map u8)),(3,.int .i64 0)] ((aQ c l).map fun p=>[.slc (p.map u8)]):=by
 refine aE8 Tryz.func99 rfl (by kernel_rfl) (C4 rfl) rfl fun L J hS hY=>?_;have e0:lL [(23,CV.slc [u8 c]),(23,.slc (l.map u8)),(3,.int .i64 0)]=fob [(0,.box 23 (.c (.slc [u8 c]))),(1,.box 23 (.c (.slc (l.map u8)))),(2,.box 3 (.c (.int .i64 0)))]:=by
  funext i
  match i with
  |0=>rfl
  |1=>rfl
  |2=>rfl
  |i+3=>simp[lL,fob,upd]
 have e1:iZ (List.range [((23:Nat),CV.slc [u8 c]),(23,.slc (l.map u8)),(3,.int .i64 0)].length)=[.ptr 0 0,.ptr 1 0,.ptr 2 0]:=rfl;rw[e0,e1];refine gD fun K hK=>?_;refine gD fun K1 hK1=>oU hS rfl (aL (by kernel_rfl) ?_);simp only[sR,simprocAttr];have F:=rI;refine AU ?_;simp only[sE,↓reduceIte,simprocAttr,rI];refine hK1 _ _ _ _ _ ?_;clear hK1 K1;refine lF (b:=false) rfl (fun hb=>by cases hb) (fun _=>?_);refine oV ?_;simp only[sE,↓reduceIte,simprocAttr,rI];refine hK _ _ _ _ _ ?_;clear hK K;refine gD fun K hK=>?_;refine qH ?_;refine aT8 (α:={y:Nat×List UInt8//(aQ c l).drop y.1=aQ c y.2∧y.2.length≤l.length}) hS (fun y=>(fin [(0,.opq (.func (.yield L) #[] #[])),(1,.ptr 0 0),(2,.ptr 1 0),(3,.ptr 2 0)],fob [(0,.box 23 (.c (.slc [u8 c]))),(1,.box 23 (.c (.slc (y.1.2.map u8)))),(2,.box 3 (.c (.int .i64 0)))])) (fun y=>y.1.1) 100 (fun y=>y.1.2.length) ⟨(0,l),rfl,F2 _⟩ rfl (fF) rfl ?_;rintro⟨⟨j,rest⟩,hsp,hle⟩;simp only at hsp hle;refine qH ?_;refine gD fun K1 hK1=>oU hS rfl (aL (by kernel_rfl) ?_);simp only[sR,simprocAttr];iterate 2 refine SF ?_
 have F:=aI rI @denilL_u8;refine SCF (aF1 rest c) ?_;have F:=rI;refine SF ?_;simp only[sE,↓reduceIte,simprocAttr,rI];refine hK1 _ _ _ _ _ ?_;clear hK1 K1;refine gD fun K1 hK1=>?_;refine gD fun K2 hK2=>oU hS rfl (aL (by kernel_rfl) ?_);simp only[sR,simprocAttr];refine AU ?_;simp only[sE,↓reduceIte,simprocAttr,rI];refine hK2 _ _ _ _ _ ?_;clear hK2 K2;refine lF (b:=decide (eD rest c<0)) rfl (fun hb=>?_) (fun hb=>?_)
 ·
  have hn:eD rest c<0:=by simpa using hb
  rw[oS hn]at hsp;obtain⟨hj,hx,hd⟩:=cP9 (α:=Nat) _ _ _ _ hsp;refine aT7 ?_;simp only[sE,↓reduceIte,simprocAttr,rI];clear hK1 K1;refine hK _ _ _ _ _ ?_;clear hK K;have htk:List.take rest.length (rest.map u8)=rest.map u8:=E6 (by simp);refine uX (l:=L) 7 hS hY rfl (by kernel_rfl) (by decide) ?_;simp only[sR,List.range',simprocAttr];have F:=aI rI @A2.{0,0};iterate 6 refine SF ?_
  refine S0 ?_ (e:=fun _ h_=>by simp only[sH,↓sP,sA,tyS,simprocAttr,rI,htk,A2,↓hslice3.eq_def,A0,lD,L7,G8,S1,H3];exact AX h_);rw[hlex];refine⟨_,_,_,hj,rfl,rfl,rfl,rfl,rfl,?_,?_,?_⟩
  · rw[hx];rfl
  · simp only[sR,List.range',simprocAttr];rw[hlex];refine⟨by simp,fun _=>?_⟩;have:=List.drop_eq_nil_iff.1 hd;simp only[A2]at hj⊢;omega
  simp only[sR,List.range',simprocAttr];rw[hlex];exact⟨by simp,fun h=>by cases h⟩
 have hn: ¬eD rest c<0:=by simpa using hb
 obtain⟨k,hk,hkl,hsp2⟩:=eT hn;rw[hk];rw[hsp2]at hsp;obtain⟨hj,hx,hd⟩:=cP9 (α:=Nat) _ _ _ _ hsp;have hkm:min k rest.length=k:=by omega
 have ek:List.take k (rest.map u8)=(rest.take k).map u8:=K3.symm;have htk:List.take k ((rest.take k).map u8)=(rest.take k).map u8:=E6 (by simp;omega);have hw1:IntKind.i64.wrap ((k:Int)+1)=((k+1:Nat):Int):=by rw[A8 _ (by omega)];rfl
 have hkl1:k+1≤rest.length:=hkl;have edr:List.take (rest.length-(k+1)) (List.drop (k+1) (rest.map u8))=(rest.drop (k+1)).map u8:=by rw[M1,E6 (by simp)]
 refine oV ?_;simp only[sE,↓reduceIte,simprocAttr,rI];refine hK1 _ _ _ _ _ ?_;clear hK1 K1;refine gD fun K1 hK1=>oU hS rfl (aL (by kernel_rfl) ?_);simp only[sR,simprocAttr];iterate 6 refine S0 ?_ (e:=fun _ h_=>by simp only[sH,↓sP,sA,tyS,simprocAttr,rI,ek,A2,A0,lD,Int.add_zero,H2,S5 hkl,L7,G8,show IntKind.i64.wrap (k:Int)=(k:Int)from A8 _ (by omega)];exact AX h_)
 simp only[sE,↓reduceIte,simprocAttr,rI];refine hK1 _ _ _ _ _ ?_;clear hK1 K1;refine gD fun K1 hK1=>?_;refine gD fun K2 hK2=>uX (l:=L) 7 hS hY rfl (by kernel_rfl) (by decide) ?_;simp only[sR,List.range',simprocAttr];have F:=aI rI (aI @A2.{0,0} (aI @D9.{0} hkm));iterate 6 refine SF ?_
 refine S0 ?_ (e:=fun _ h_=>by simp only[sH,↓sP,sA,tyS,simprocAttr,rI,htk,A2,D9,hkm,↓hslice3.eq_def,A0,lD,L7,G8,S1,H3];exact AX h_);rw[hlex];refine⟨_,_,_,hj,rfl,rfl,rfl,rfl,rfl,?_,?_,?_⟩
 · rw[hx];rfl
 · simp only[sR,List.range',simprocAttr];have F:=rI;refine SF ?_;simp only[sE,↓reduceIte,simprocAttr,rI];refine hK2 _ _ _ _ _ ?_;clear hK2 K2;refine lF (b:=false) rfl (fun hb=>by cases hb) (fun _=>?_);refine oV ?_;simp only[sE,↓reduceIte,simprocAttr,rI];refine hK1 _ _ _ _ _ ?_;clear hK1 K1;refine oU hS rfl (aL (by kernel_rfl) ?_);simp only[sR,simprocAttr];have F:=aI rI (aI edr (aI hw1 (aI @A2.{0,0} (aI @A0 (aI @lD (aI @H2 (aI hkl1 @denilL_u8)))))));refine AU ?_;simp only[sE,↓reduceIte,simprocAttr,rI];refine⟨⟨(j+1,rest.drop (k+1)),hd,by simp;omega⟩,fF,trivial,rfl,?_⟩;show(rest.drop (k+1)).length<rest.length;simp;omega
 simp only[sR,List.range',simprocAttr];have F:=rI;refine SF ?_;simp only[sE,↓reduceIte,simprocAttr,rI];refine hK2 _ _ _ _ _ ?_;clear hK2 K2;refine lF (b:=true) rfl (fun _=>?_) (fun hb=>by cases hb);refine bI0 ?_;simp only[sE,↓reduceIte,simprocAttr,rI];exact⟨by simp,fun h=>by cases h⟩
theorem cT8 (s:aH)(hl:s.length<2^40):gB Tryz.prog 47 [.str s] (fun u v=>u= .str ((unW s).getD [])∧v= .bool (unW s).isSome):=by
 refine FW Tryz.func47 ?_;refine R0 ?_;refine aC fun K hK=>?_;refine R0 ?_;refine aF (b:=s==[126]) rfl (fun hb=>?_) (fun hb=>?_)
 ·
  refine R0 ?_;refine aE (RT Tryz.results47 ?_);have hs:s=[126]:=by simpa using hb
  subst hs;exact aO [] (.str []) (.bool true) rfl ⟨rfl,rfl⟩
 refine aJ ?_;refine T0 (hK _ _ _ ?_);clear hK K;have hne:s≠[126]:=by simpa using hb
 clear hb;refine R0 ?_;refine aC fun K hK=>?_;refine R0 ?_;refine aM ?_;refine iN 4 0 5 1 rfl rfl rfl rfl ?_;refine bN (α:={y:Nat×aH//UnSt s y.1 y.2}) (fun y=>(fin [(0,.c (.str s)),(4,.own 24 y.1.2.length),(5,.c (.int .i64 y.1.1))],fob [(24,.row 5 1 (y.1.2.map dG))])) 100 (fun y=>s.length-y.1.1) ⟨(0,[]),UnSt.init s⟩ (fF) ?_;rintro⟨⟨i,out⟩,hst⟩;simp only at hst;have hi:=hst.1;have ho:=hst.2.2.2;refine aC fun K hK=>?_;refine AU ?_;refine aF (b:=decide ((i:Int)<s.length)) rfl (fun hb=>?_) (fun hb=>?_)
 ·
  have hlt:i<s.length:=by simpa using hb
  clear hb;have hgd:s.getD i 0=s[i]:=by simp[hlt]
  refine aJ ?_;refine T0 (hK _ _ _ ?_);clear hK K;refine aC fun K hK=>?_;refine aM ?_;refine aC fun K hK=>?_;refine aC fun K hK=>Rg ?_;iterate 3 refine S0 ?_ (e:=fun _ h_=>by simp only[sH,↓sP,sA,tyS,simprocAttr,A0,A4,hlt,hgd];exact AX h_)
  refine HS rfl rfl fun K' hK'=>?_;simp only[sH,↓sP,sA,tyS,simprocAttr,A0,A4,hlt,hgd];refine C1 (tH s[i]) ?_;rintro u rfl;refine AX (hK' _ _ ?_);clear hK' K';refine T2 (hK _ _ _ ?_);clear hK K;refine aF (b:=cY s[i]) rfl (fun hb=>?_) (fun hb=>?_)
  ·
   refine RS ?_;iterate 7 refine S0 ?_ (e:=fun _ h_=>by simp only[sH,↓sP,sA,tyS,simprocAttr,A0,A4,hlt,hgd,A3,A2];exact AX h_)
   refine RE ?_;refine bG (T3 ?_);clear hK K;refine AX (hK _ _ _ ?_);clear hK K;refine aL (by kernel_rfl) ?_;refine TQ (fS i) ?_;refine⟨⟨(i+1,out++[s[i]]),hst.plain hlt hb⟩,aP (by omega) ?_ ?_,?_⟩
   · simp
   · simp only[dC,C5];exact⟨rfl,by omega,trivial,trivial⟩
   show s.length-(i+1)<s.length-i;omega
  refine aJ ?_;refine T0 (hK _ _ _ ?_);clear hK K;refine aC fun K hK=>?_;have hp:cY s[i]=false:=hb;clear hb;have hw1:IntKind.i64.wrap ((i:Int)+1)=((i+1:Nat):Int):=by rw[A8 _ (by omega)];rfl
  have hw2:IntKind.i64.wrap ((i:Int)+2)=((i+2:Nat):Int):=by rw[A8 _ (by omega)];rfl
  have hw3:IntKind.i64.wrap (((i+2:Nat):Int)+1)=((i+3:Nat):Int):=by rw[A8 _ (by omega)];rfl
  refine RS ?_;iterate 5 refine S0 ?_ (e:=fun _ h_=>by simp only[sH,↓sP,sA,tyS,simprocAttr,A0,A4,hlt,hgd,hw2];exact AX h_)
  refine aG 29 rfl (fun h9_29=>?_) (fun h9_29=>?_)
  ·
   iterate 6 refine S0 ?_ (e:=fun _ h_=>by simp only[sH,↓sP,sA,tyS,simprocAttr,A0,A4,hlt,hgd,hw2,h9_29];exact AX h_)
   refine RE ?_;refine CT rfl ?_;refine R0 ?_;refine aE (RT Tryz.results47 ?_);have h37:s[i]≠37:=by rintro h;rw[h]at h9_29;simp at h9_29
   have hn:=iB (hst.bad1 hlt hp (.inl h37)) hne;exact aO [] (.str []) (.bool false) rfl ⟨by rw[hn];rfl,by rw[hn];rfl⟩
  iterate 6 refine S0 ?_ (e:=fun _ h_=>by simp only[sH,↓sP,sA,tyS,simprocAttr,A0,A4,hlt,hgd,hw2,h9_29];exact AX h_)
  refine aG 35 rfl (fun h9_35=>?_) (fun h9_35=>?_)
  ·
   simp only[h9_35];refine RE ?_;refine CT rfl ?_;refine R0 ?_;refine aE (RT Tryz.results47 ?_);have hi2:s.length≤i+2:=by simp at h9_35;omega
   have hn:=iB (hst.bad1 hlt hp (.inr hi2)) hne;exact aO [] (.str []) (.bool false) rfl ⟨by rw[hn];rfl,by rw[hn];rfl⟩
  simp only[h9_35];refine RE ?_;refine CF rfl ?_;refine aJ ?_;refine T0 (hK _ _ _ ?_);clear hK K;have h37:s[i]=37:=by
   simp only[S8]at h9_29;exact N9.1 (by show s[i].toNat=37;omega)
  have hi2:i+2<s.length:=by simp at h9_35;omega
  have hi1:i+1<s.length:=by omega
  have hg1:s.getD (i+1) 0=s[i+1]:=by simp[hi1]
  have hg2:s.getD (i+2) 0=s[i+2]:=by simp[hi2]
  refine aC fun K hK=>DW [(0,[],[]),(1,[],[]),(2,[],[]),(3,[],[]),(5,[],[]),(6,[],[]),(7,[],[]),(8,[],[]),(4,[],[5,6,7,8]),(9,[],[]),(10,[],[]),(11,[],[])] [0,0,2,7,15,0,0,64,224,511,1023,2047] ?_;have F:=aI @A0 (aI @A4 (aI hw1 (aI hw2 (aI hg1 (aI hg2 (aI hi1 (aI hi2 (aI h9_29 h9_35))))))));iterate 8 refine WF ?_
  refine cT (g:=none) rfl rfl fun K' hK'=>T6 ?_;refine C2 (tI cI9 s[i+1]) ?_;rintro u rfl;refine AX (hK' _ _ ?_);clear hK' K';refine cT (g:=none) rfl rfl fun K' hK'=>T6 ?_;refine C2 (tI cI9 s[i+2]) ?_;rintro u rfl;refine AX (hK' _ _ ?_);clear hK' K';iterate 2 refine WF ?_
  refine T2 (hK _ _ _ ?_);clear hK K;refine aC fun K hK=>?_;by_cases hx:valH s[i+1]<16
  ·
   by_cases hy:valH s[i+2]<16
   ·
    rw[sZ,sZ,B6 hx,B6 hy];have hx0:decide (((valH s[i+1]:Nat):Int)<0)=false:=by simp
    have hy0:decide (((valH s[i+2]:Nat):Int)<0)=false:=by simp
    have e1:IntKind.i64.wrap (16*((valH s[i+1]:Nat):Int))=((16*valH s[i+1]:Nat):Int):=by rw[A8 _ (by omega)];omega
    have e2:IntKind.i64.wrap (((16*valH s[i+1]:Nat):Int)+((valH s[i+2]:Nat):Int))=((16*valH s[i+1]+valH s[i+2]:Nat):Int):=by rw[A8 _ (by omega)];omega
    have e3:IntKind.u8.wrap ((16*valH s[i+1]+valH s[i+2]:Nat):Int)=((byteH s[i+1] s[i+2]).toNat:Int):=by rw[P8 _ (by omega),uU hx hy]
    refine RS ?_;have F:=aI hx0 (aI hy0 (aI e1 (aI e2 (aI e3 (aI h9_29 h9_35)))));refine AU ?_;refine SCF (tH (byteH s[i+1] s[i+2])) ?_;refine AU ?_;refine aF (b:=cY (byteH s[i+1] s[i+2])) rfl (fun hb=>?_) (fun hb=>?_)
    · refine R0 ?_;refine aE (RT Tryz.results47 ?_);have hn:=iB (hst.bad2 hi2 h37 (by simp[okH,hx,hy,hb])) hne;exact aO [] (.str []) (.bool false) rfl ⟨by rw[hn];rfl,by rw[hn];rfl⟩
    refine aJ ?_;refine T0 (hK _ _ _ ?_);clear hK K;refine RS ?_;have F:=aI @A0 (aI @A3.{0} (aI @A2.{0,0} (aI e1 (aI e2 (aI e3 (aI h9_29 h9_35))))));refine AU ?_;refine aL (by kernel_rfl) ?_;refine TQ hw2 ?_;refine AX (hK _ _ _ ?_);clear hK K;refine aL (by kernel_rfl) ?_;refine TQ hw3 ?_;refine⟨⟨(i+3,out++[byteH s[i+1] s[i+2]]),hst.esc hi2 h37 (by simp[okH,hx,hy,hb])⟩,aP (by omega) ?_ ?_,?_⟩
    · simp
    · simp only[dC,C5];exact⟨rfl,by omega,trivial,trivial⟩
    show s.length-(i+3)<s.length-i;omega
   rw[sZ,sZ,B6 hx,A7 hy];have hx0:decide (((valH s[i+1]:Nat):Int)<0)=false:=by simp
   refine RS ?_;have F:=aI hx0 (aI h9_29 h9_35);refine AU ?_;refine CT rfl ?_;refine R0 ?_;refine aE (RT Tryz.results47 ?_);have hn:=iB (hst.bad2 hi2 h37 (by simp[okH,hx,hy])) hne;exact aO [] (.str []) (.bool false) rfl ⟨by rw[hn];rfl,by rw[hn];rfl⟩
  rw[sZ,A7 hx];refine RS ?_;have F:=aI h9_29 h9_35;refine AU ?_;refine CT rfl ?_;refine R0 ?_;refine aE (RT Tryz.results47 ?_);have hn:=iB (hst.bad2 hi2 h37 (by simp[okH,hx])) hne;exact aO [] (.str []) (.bool false) rfl ⟨by rw[hn];rfl,by rw[hn];rfl⟩
 refine bG (T3 ?_);clear hK K;refine AX (hK _ _ _ ?_);clear hK K;have hei:i=s.length:=by simp at hb;omega
 have hfin:=hst.fin hei hne;refine cM [24] (bB (fr2:=fin [(4,.c (.slc (out.map dG)))]) (ob2:=fob []) (nx2:=200) (aP (by omega) (by simp[dE]) (by simp)) ?_);refine RS ?_;have F:=aI @bytesC_map @A2.{0,0};refine AU ?_;refine aE (RT Tryz.results47 ?_);refine aO [] (.str out) (.bool (decide (0<(out.length:Int)))) rfl ?_;rw[hfin];by_cases ho0:out=[]
 · subst ho0;simp
 have:0<out.length:=J0.2 ho0;simp[ho0,this]
def lsC (l:List aH):CV:= .slc (l.map .str)
theorem dB (l:List aH):(lsC l).cells=1:=rfl
theorem fL (l:List aH):(lsC l).denil=lsC l:=by simp only[lsC,CV.denil,denilL_str]
theorem aR (l:List (List aH)):CV.denilL (l.map lsC)=l.map lsC:=cX fL l
theorem cT9 (b:aH)(hl:b.length<2^40):gB Tryz.prog 23 [.slc (b.map u8)] (fun u v=>u= .slc ((decO b).map lsC)∧v= .int .i64 (dZ b)):=by
 refine FW Tryz.func23 ?_;have F:=rI;refine RF ?_;refine bX5 ?_;refine aC fun K hK=>?_;have F:=aI rI @A2.{0,0};refine RF ?_;refine aF (b:=decide ((262144:Int)<b.length)) rfl (fun hb=>?_) (fun hb=>?_)
 ·
  have F:=rI;refine RF ?_;refine aE ?_;simp only[gI,Tryz.results23,fV,gH,fJ,↓sP,sA,tyS,simprocAttr,rI];have hE:dZ b=3:=by unfold dZ;rw[B6 (by simp at hb;omega)]
  refine aO [] (.slc []) (.int .i64 3) ?_ ⟨by simp only[decO,hE];rfl,by rw[hE]⟩;simp
 refine aJ ?_;refine TQ rI ?_;refine AX (hK _ _ _ ?_);clear hK K;have hle:b.length≤262144:=by simp at hb;omega
 clear hb;have F:=rI;refine RF ?_;refine RF ?_;refine aC fun K hK=>?_;refine bV4 ?_;try simp only[↓sP,sA,tyS,simprocAttr,rI]
 refine AX (hK _ _ _ ?_);clear hK K;refine aC fun K hK=>?_;have key: ∀(ok:Bool) (ls:List (List aH)) fr ob nx,(ok=true→gX b=some ls)→(ok=false→gX b=none)→ls.length≤b.length→Fits 0 fr ob (fin [(4,.own 32 ls.length),(5,.ptr 24 0)]) (fob [(24,.box 4 (.c (.bool ok))),(32,.row 37 1 (ls.map lsC))]) 1000→K fr ob nx:=by
  intro ok ls fr ob nx h1 h2 h3 hf;refine hK _ _ _ (bB hf ?_);clear hf hK K;refine aC fun K hK=>?_;cases ok
  ·
   refine RS ?_;have F:=aI rI @A2.{0,0};refine AU ?_;refine CT rfl ?_;have F:=rI;refine RF ?_;refine aE ?_;simp only[gI,Tryz.results23,fV,gH,fJ,↓sP,sA,tyS,simprocAttr,rI];have hE:dZ b=2:=by unfold dZ;rw[A7 (by omega),h2 rfl]
   refine aO [] (.slc []) (.int .i64 2) ?_ ⟨by simp only[decO,hE];rfl,by rw[hE]⟩;simp
  refine RS ?_;have F:=aI rI @A2.{0,0};refine AU ?_;refine aF (b:=decide ((1000:Int)<ls.length)) rfl (fun hb=>?_) (fun hb=>?_)
  ·
   have F:=rI;refine RF ?_;refine aE ?_;simp only[gI,Tryz.results23,fV,gH,fJ,↓sP,sA,tyS,simprocAttr,rI];have hE:dZ b=2:=by unfold dZ;rw[A7 (by omega),h1 rfl];simp only;rw[B6 (by simp at hb;omega)]
   refine aO [] (.slc []) (.int .i64 2) ?_ ⟨by simp only[decO,hE];rfl,by rw[hE]⟩;simp
  refine aJ ?_;refine TQ rI ?_;refine AX (hK _ _ _ ?_);clear hK K;have F:=rI;refine RF ?_;refine aE ?_;simp only[gI,Tryz.results23,fV,gH,fJ,↓sP,sA,tyS,simprocAttr,rI];have hE:dZ b=0:=by unfold dZ;rw[A7 (by omega),h1 rfl];simp only;rw[A7 (by simp at hb;omega)]
  refine aO [32] (.slc (ls.map lsC)) (.int .i64 0) ?_ ⟨by simp only[decO,hE,h1 rfl];rfl,by rw[hE]⟩;simp[aR]
 refine aM ?_;refine iN 4 0 37 1 rfl rfl rfl rfl ?_;refine bN (α:={y:aH×List (List aH)//DecSt b y.1 y.2}) (fun y=>(fin [(0,.c (.slc (y.1.1.map u8))),(4,.own 32 y.1.2.length),(5,.ptr 24 0)],fob [(24,.box 4 (.c (.bool true))),(32,.row 37 1 (y.1.2.map lsC))])) 100 (fun y=>y.1.1.length) ⟨(b,[]),DecSt.init b⟩ (fF) ?_;rintro⟨⟨rest,ls⟩,hst⟩;simp only at hst;have hr1:=hst.2.1;have hr2:=hst.2.2;refine aC fun K hK=>?_;have F:=aI rI @A2.{0,0};refine RF ?_;refine aF (b:=decide ((0:Int)<rest.length)) rfl (fun hb=>?_) (fun hb=>?_)
 ·
  refine aJ ?_;refine TQ rI ?_;refine AX (hK _ _ _ ?_);clear hK K;refine aM ?_;have hne:rest≠[]:=by rintro rfl;simp at hb
  clear hb;refine aC fun K hK=>aZ (by kernel_rfl) ?_;simp only[sR,simprocAttr];have F:=aI rI @denilL_u8;refine SGF ?_;refine cU (g:=none) 116 rfl rfl fun K' hK'=>?_;simp only[fI,iM,sH,↓sP,sA,tyS,simprocAttr,rI,denilL_u8];repeat refine AI ?_
  refine cK (by first|rfl|simp) ?_;try simp only[sH,↓sP,sA,tyS,simprocAttr,rI,denilL_u8]
  refine AX (hK' _ _ ?_);clear hK' K';refine bU (g:=none) rfl rfl fun K' hK'=>T6 ?_;refine nN (args:=[_,_]) (cJ6 rest 10 (by omega)) ⟨rfl,rfl,rfl,rfl⟩ ?_;rintro u v x ⟨li,re,fd,rfl,rfl,rfl,hcut⟩;have hlt:=hcut.lt hne;refine AX (hK' _ _ ?_);clear hK' K';iterate 7 refine SGF ?_
  simp only[sE,↓reduceIte,simprocAttr,rI];refine AX (hK _ _ _ ?_);clear hK K;have F:=rI;refine RF ?_;refine aC fun K hK=>?_;refine aC fun K hK=>aZ (by kernel_rfl) ?_;simp only[sR,simprocAttr];refine SG0 ?_ (e:=fun _ h_=>by simp only[sH,↓sP,sA,tyS,simprocAttr,rI,denilL_u8,oW,iZ,List.range',D0,H1];exact AX h_);refine cU (g:=none) 160 rfl rfl fun K' hK'=>?_;simp only[fI,iM,sH,↓sP,sA,tyS,simprocAttr,rI,denilL_u8,oW,iZ,List.range',D0,H1];repeat refine AI ?_
  refine cK (by first|rfl|simp) ?_;try simp only[sH,↓sP,sA,tyS,simprocAttr,rI,denilL_u8,oW,iZ,List.range',D0,H1]
  refine AX (hK' _ _ ?_);clear hK' K';refine bU (g:=none) rfl rfl fun K' hK'=>?_;simp only[sH,↓sP,sA,tyS,simprocAttr,rI,denilL_u8,oW,iZ,List.range',D0,H1];refine uY (args:=[_,_]) (bP4 li 32) (by simp) ⟨rfl,rfl,rfl,rfl⟩ ?_;refine AX (hK' _ _ ?_);clear hK' K';simp only[sE,↓reduceIte,simprocAttr,rI];refine AX (hK _ _ _ ?_);clear hK K;refine aM ?_;refine pY 152 0 9 1 rfl rfl rfl rfl ?_;refine aE7 (ids:=[164,165,166]) (fin [(0,.c (.slc (rest.map u8))),(4,.own 32 ls.length),(5,.ptr 24 0),(7,.c (.slc (re.map u8))),(8,.c (.bool fd)),(9,.ptr 152 0)]) (fun i=>fob [(24,.box 4 (.c (.bool true))),(32,.row 37 1 (ls.map lsC)),(152,.box 37 (.own 168 i)),(168,.row 9 1 ((wsT li i).map .str))]) 200 (fun i=>aB2 li i) (fun p hp=>by simp at hp) (bE0 li 32 (by omega)) rfl rfl (by decide) ?_ ?_ ?_ ?_ ?_ rfl rfl ?_ ?_
  ·
   intro j x hx
   match j,hx with
   |0,hx=>cases hx;rfl
   |1,hx=>cases hx;rfl
   |2,hx=>cases hx;rfl
  · exact aP (by omega) (by simp) (by simp[oW,wsT])
  · intro id hid;simp only[E9,I7,P1]at hid;rcases hid with rfl|rfl|rfl<;>rfl
  · intro x hx;obtain⟨p,_,rfl⟩:=L3.1 hx;rfl
  · intro p hp;simp only[E9,I7,P1]at hp;subst hp;exact C4 rfl
  ·
   intro i hi hΦ K hK;have hi':i<(aQ 32 li).length:=by simpa using hi
   have hwl:=lE (r:=li) (S5 hi');have hsl:=dP 32 li;obtain⟨p,hp⟩: ∃p,p=(aQ 32 li)[i]:=⟨_,rfl⟩;have hpl:p.length≤li.length:=by rw[hp];exact iP 32 li _ (C0 hi')
   have hx:(List.map (fun p=>[CV.slc (List.map u8 p)]) (aQ 32 li))[i]=[CV.slc (p.map u8)]:=by rw[List.getElem_map,hp]
   rw[hx];simp only[yS];have hbc:iX (p.map u8)=some p:=bytesC_map p;refine aL (by kernel_rfl) ?_;refine TQ rI ?_;refine AX (hK _ _ _ ?_);clear hK K;refine aM ?_;refine aC fun K hK=>Rg ?_;have F:=aI rI hbc;refine AU ?_;refine HS rfl rfl fun K' hK'=>T6 ?_;refine D1 (cT8 p (by omega)) ?_;rintro u v ⟨rfl,rfl⟩;refine AX (hK' _ _ ?_);clear hK' K';refine AU ?_;simp only[sE,↓reduceIte,simprocAttr,rI];refine AX (hK _ _ _ ?_);clear hK K;refine aC fun K hK=>?_;have F:=rI;refine RF ?_;refine aF (b:=!(unW p).isSome) rfl (fun hb=>?_) (fun hb=>?_)
   · refine RF ?_;refine bG ?_;refine TQ rI ?_;clear hK K;clear hK K;exact key false ls _ _ _ (fun h=>by cases h) (fun _=>hst.bad hcut hne (bW7 hi' (by rw[←hp];simpa using hb))) (by omega) (fF)
   refine aJ ?_;refine TQ rI ?_;refine AX (hK _ _ _ ?_);clear hK K;refine Rg ?_;have F:=aI rI (aI @A3.{0} (aI @A2.{0,0} hwl));refine AU ?_;simp only[sE,↓reduceIte,simprocAttr,rI];refine⟨(show Fits 200 _ _ (fin []) _ 200 from aP (by omega) trivial ?_),qF hi' hΦ (by rw[←hp];simpa using hb)⟩;rw[tA hi',←hp];simp
  intro hΦ;simp only[sE,↓reduceIte,simprocAttr,rI];rw[A2]at hΦ⊢;have hwl:=lE (r:=li) (F2 _);have hul:=cJ0 hΦ;have hsl:=dP 32 li;obtain⟨ws,hws⟩: ∃ws,ws=wsT li (aQ 32 li).length:=⟨_,rfl⟩;rw[←hws]at hul hwl;rw[←hws,←hwl];refine AX (hK _ _ _ ?_);clear hK K;refine aC fun K hK=>?_;cases fd
  · refine cM [168] (bB (fr2:=fin [(0,.c (.slc (rest.map u8))),(4,.own 32 ls.length),(5,.ptr 24 0),(7,.c (.slc (re.map u8))),(8,.c (.bool false)),(9,.ptr 152 0)]) (ob2:=fob [(24,.box 4 (.c (.bool true))),(32,.row 37 1 (ls.map lsC)),(152,.box 37 (.c (.slc (ws.map .str))))]) (nx2:=300) (aP (by omega) (by simp[denilL_u8]) (by simp[denilL_str])) ?_);refine AU ?_;refine CT rfl ?_;refine RF ?_;refine bG ?_;refine TQ rI ?_;clear hK K;exact key false ls _ _ _ (fun h=>by cases h) (fun _=>hst.bad0 hcut hne) (by omega) (fF)
  refine cM [168] (bB (fr2:=fin [(0,.c (.slc (rest.map u8))),(4,.own 32 ls.length),(5,.ptr 24 0),(7,.c (.slc (re.map u8))),(8,.c (.bool true)),(9,.ptr 152 0)]) (ob2:=fob [(24,.box 4 (.c (.bool true))),(32,.row 37 1 (ls.map lsC)),(152,.box 37 (.c (.slc (ws.map .str))))]) (nx2:=300) (aP (by omega) (by simp[denilL_u8]) (by simp[denilL_str])) ?_);refine AU ?_;refine SCF (aU0 ws (by omega)) ?_;refine AU ?_;refine aF (b:=iO ws !=0) rfl (fun hb=>?_) (fun hb=>?_)
  · refine RF ?_;refine bG ?_;refine TQ rI ?_;clear hK K;exact key false ls _ _ _ (fun h=>by cases h) (fun _=>hst.bad hcut hne (by rw[hul,A7];unfold okL;simpa using hb)) (by omega) (fF)
  refine aJ ?_;refine TQ rI ?_;refine AX (hK _ _ _ ?_);clear hK K;refine Rg ?_;have F:=aI rI (aI @A3.{0} @A2.{0,0});refine AU ?_;simp only[sE,↓reduceIte,simprocAttr,rI];have hok:okL ws=true:=by unfold okL;simpa using hb
  refine⟨⟨(re,ls++[ws]),hst.next hcut hne (by rw[hul,B6 hok])⟩,aP (by omega) ?_ ?_,hlt.1⟩
  · simp
  simp only[dC,C5];exact⟨rfl,by omega,trivial,rfl,by omega,trivial,trivial⟩
 refine bG ?_;refine TQ rI ?_;clear hK K;have hr0:rest=[]:=by simpa using hb
 subst hr0;exact key true ls _ _ _ (fun _=>hst.fin) (fun h=>by cases h) (by omega) (fF)
theorem cL9 (s:aH):gB Tryz.prog 77 [.str s] (fun u v=>u= .int .i64 ((bP s).getD 0)∧v= .bool (bP s).isSome):=by
 refine FW Tryz.func77 ?_;refine R0 ?_;refine aC fun K hK=>?_;have key: ∀fr ob nx,fK s=false→Fits 0 fr ob (fin [(0,.c (.str s))]) (fob []) 100→K fr ob nx:=by
  intro fr ob nx hbad hf;refine hK _ _ _ (bB hf ?_);clear hf hK K;have hlen:s.length≤13:=by
   simp only[fK,K7,C6]at hbad;omega
  refine R0 ?_;refine aC fun K hK=>?_;refine R0 ?_;refine aM ?_;refine bN (α:={y:Nat×Nat//DgSt s y.1 y.2}) (fun y=>(fin [(0,.c (.str s)),(4,.c (.int .i64 y.1.2)),(5,.c (.int .i64 y.1.1))],fob [])) 200 (fun y=>s.length-y.1.1) ⟨(0,0),DgSt.init s⟩ (fF) ?_;rintro⟨⟨i,n⟩,hst⟩;simp only at hst;have hi:=hst.1;have hnl:=hst.lt hlen;refine aC fun K hK=>?_;refine AU ?_;refine aF (b:=decide ((i:Int)<s.length)) rfl (fun hb=>?_) (fun hb=>?_)
  ·
   have hlt:i<s.length:=by simpa using hb
   clear hb;have hgd:s.getD i 0=s[i]:=by simp[hlt]
   have hdi:=aU2 s[i];refine aJ ?_;refine T0 (hK _ _ _ ?_);clear hK K;refine aC fun K hK=>?_;refine aM ?_;refine aC fun K hK=>?_;have key2: ∀fr ob nx,kL s[i]=true→Fits 0 fr ob (fin [(0,.c (.str s)),(4,.c (.int .i64 n)),(5,.c (.int .i64 i))]) (fob []) 300→K fr ob nx:=by
    intro fr ob nx hd hf;refine hK _ _ _ (bB hf ?_);clear hf hK K;have hd2:48≤s[i].toNat∧s[i].toNat≤57:=by simpa[kL]using hd
    have e1:IntKind.i64.wrap (10*(n:Int))=((10*n:Nat):Int):=by rw[A8 _ (by omega)];omega
    have e2:IntKind.u8.wrap ((s[i].toNat:Int)-48)=((s[i].toNat-48:Nat):Int):=by rw[P8 _ (by omega)];omega
    have e3:IntKind.i64.wrap ((s[i].toNat-48:Nat):Int)=((s[i].toNat-48:Nat):Int):=by rw[A8 _ (by omega)]
    have e4:IntKind.i64.wrap (((10*n:Nat):Int)+((s[i].toNat-48:Nat):Int))=((10*n+(s[i].toNat-48):Nat):Int):=by rw[A8 _ (by omega)];omega
    refine Rg ?_;iterate 9 refine S0 ?_ (e:=fun _ h_=>by simp only[sH,↓sP,sA,tyS,simprocAttr,A0,A4,hlt,hgd,e1,e2,e3,e4];exact AX h_)
    refine T2 (hK _ _ _ ?_);clear hK K;refine aL (by kernel_rfl) ?_;refine TQ (fS i) ?_;refine⟨⟨(i+1,10*n+(s[i].toNat-48)),hst.next hlt hd⟩,fF,?_⟩;show s.length-(i+1)<s.length-i;omega
   refine RS ?_;iterate 5 refine S0 ?_ (e:=fun _ h_=>by simp only[sH,↓sP,sA,tyS,simprocAttr,A0,A4,hlt,hgd];exact AX h_)
   refine aG 33 rfl (fun h7_33=>?_) (fun h7_33=>?_)
   ·
    iterate 5 refine S0 ?_ (e:=fun _ h_=>by simp only[sH,↓sP,sA,tyS,simprocAttr,A0,A4,hlt,hgd,h7_33];exact AX h_)
    refine RE ?_;refine CT rfl ?_;refine R0 ?_;refine aE (RT Tryz.results77 ?_);have hd:kL s[i]=false:=by simp only[kL,K9,C6];simp at h7_33;omega
    have hn:=qI (hst.bad hlt hd);exact aO [] (.int .i64 0) (.bool false) rfl ⟨by rw[hn];rfl,by rw[hn];rfl⟩
   iterate 5 refine S0 ?_ (e:=fun _ h_=>by simp only[sH,↓sP,sA,tyS,simprocAttr,A0,A4,hlt,hgd,h7_33];exact AX h_)
   refine aG 38 rfl (fun h7_38=>?_) (fun h7_38=>?_)
   ·
    simp only[h7_38];refine RE ?_;refine CT rfl ?_;refine R0 ?_;refine aE (RT Tryz.results77 ?_);have hd:kL s[i]=false:=by simp only[kL,K9,C6];simp at h7_38;omega
    have hn:=qI (hst.bad hlt hd);exact aO [] (.int .i64 0) (.bool false) rfl ⟨by rw[hn];rfl,by rw[hn];rfl⟩
   simp only[h7_38];refine RE ?_;refine CF rfl ?_;refine aJ (T3 ?_);exact key2 _ _ _ (by simp only[kL,A6,B9];simp at h7_33 h7_38;omega) (fF)
  refine bG (T3 ?_);clear hK K;refine AX (hK _ _ _ ?_);clear hK K;refine aC fun K hK=>?_;have hfin:=hst.fin (by simp at hb;omega);clear hb;refine R0 ?_;refine aF (b:=decide ((1099511627776:Int)<(n:Int))) rfl (fun hb=>?_) (fun hb=>?_)
  · refine R0 ?_;refine aE (RT Tryz.results77 ?_);have hn:=aU1 hfin (by simp at hb;omega);exact aO [] (.int .i64 0) (.bool false) rfl ⟨by rw[hn];rfl,by rw[hn];rfl⟩
  refine aJ ?_;refine T0 (hK _ _ _ ?_);clear hK K;refine R0 ?_;refine aE (RT Tryz.results77 ?_);have hn:=aL6 hbad hfin (by simp at hb;omega);exact aO [] (.int .i64 n) (.bool true) rfl ⟨by rw[hn];rfl,by rw[hn];rfl⟩
 refine aC fun K hK=>Rg ?_;refine AU ?_;refine aG 8 rfl (fun h1_8=>?_) (fun h1_8=>?_)
 · have F:=h1_8;refine AU ?_;refine T2 (hK _ _ _ ?_);clear hK K;refine CT rfl ?_;refine R0 ?_;refine aE (RT Tryz.results77 ?_);have hn:bP s=none:=oX (by simp only[fK,N8,B9];simp at h1_8;left;left;omega);exact aO [] (.int .i64 0) (.bool false) rfl ⟨by rw[hn];rfl,by rw[hn];rfl⟩
 have F:=h1_8;refine AU ?_;refine aG 12 rfl (fun h1_12=>?_) (fun h1_12=>?_)
 · have F:=aI h1_8 h1_12;refine AU ?_;refine T2 (hK _ _ _ ?_);clear hK K;refine CT rfl ?_;refine R0 ?_;refine aE (RT Tryz.results77 ?_);have hn:bP s=none:=oX (by simp only[fK,N8,B9];simp at h1_12;left;right;omega);exact aO [] (.int .i64 0) (.bool false) rfl ⟨by rw[hn];rfl,by rw[hn];rfl⟩
 have F:=aI h1_8 h1_12;refine AU ?_;refine aG 17 rfl (fun h1_17=>?_) (fun h1_17=>?_)
 ·
  have F:=aI h1_8 (aI h1_12 h1_17);refine SF ?_;refine aW (g:=some (18,true)) rfl rfl fun K' hK'=>T6 ?_;refine⟨by simp at h1_17;omega,?_⟩;refine AX (hK' _ _ ?_);clear hK' K';refine AU ?_;refine aG 21 rfl (fun h1_21=>?_) (fun h1_21=>?_)
  ·
   simp only[h1_21];refine T2 (hK _ _ _ ?_);clear hK K;refine CT rfl ?_;refine R0 ?_;refine aE (RT Tryz.results77 ?_);have hn:bP s=none:=oX (by
    simp only[fK,N8,A6,B9,G9];right;refine⟨by simp at h1_17;omega,N9.1 ?_⟩;simp only[G9]at h1_21;show(s.getD 0 0).toNat=48;omega)
   exact aO [] (.int .i64 0) (.bool false) rfl ⟨by rw[hn];rfl,by rw[hn];rfl⟩
  simp only[h1_21];refine T2 (hK _ _ _ ?_);clear hK K;refine CF rfl ?_;refine aJ (T3 ?_);refine key _ _ _ ?_ (fF);simp only[fK,K7,K9,C6,I0,AG];simp only[C6,B9]at h1_8 h1_12;refine⟨⟨by omega,by omega⟩,?_⟩;first
   |(right;intro h0;rw[h0]at h1_21;simp at h1_21)
   |(left;simp at h1_17;omega)
 have F:=aI h1_8 (aI h1_12 h1_17);refine AU ?_;refine T2 (hK _ _ _ ?_);clear hK K;refine CF rfl ?_;refine aJ (T3 ?_);refine key _ _ _ ?_ (fF);simp only[fK,K7,K9,C6,I0,AG];simp only[C6,B9]at h1_8 h1_12;refine⟨⟨by omega,by omega⟩,?_⟩;first
  |(right;intro h0;rw[h0]at h1_21;simp at h1_21)
  |(left;simp at h1_17;omega)
theorem cC7 (s:aH):gB Tryz.prog 83 [.str s] (fun u v=>u= .int .i64 ((bP s).getD 0)∧v= .bool (bP s).isSome):=by
 refine FW Tryz.func83 ?_;refine R0 ?_;refine aC fun K hK=>?_;have key: ∀fr ob nx,fK s=false→Fits 0 fr ob (fin [(0,.c (.str s))]) (fob []) 100→K fr ob nx:=by
  intro fr ob nx hbad hf;refine hK _ _ _ (bB hf ?_);clear hf hK K;have hlen:s.length≤13:=by
   simp only[fK,K7,C6]at hbad;omega
  refine R0 ?_;refine aC fun K hK=>?_;refine R0 ?_;refine aM ?_;refine bN (α:={y:Nat×Nat//DgSt s y.1 y.2}) (fun y=>(fin [(0,.c (.str s)),(4,.c (.int .i64 y.1.2)),(5,.c (.int .i64 y.1.1))],fob [])) 200 (fun y=>s.length-y.1.1) ⟨(0,0),DgSt.init s⟩ (fF) ?_;rintro⟨⟨i,n⟩,hst⟩;simp only at hst;have hi:=hst.1;have hnl:=hst.lt hlen;refine aC fun K hK=>?_;refine AU ?_;refine aF (b:=decide ((i:Int)<s.length)) rfl (fun hb=>?_) (fun hb=>?_)
  ·
   have hlt:i<s.length:=by simpa using hb
   clear hb;have hgd:s.getD i 0=s[i]:=by simp[hlt]
   have hdi:=aU2 s[i];refine aJ ?_;refine T0 (hK _ _ _ ?_);clear hK K;refine aC fun K hK=>?_;refine aM ?_;refine aC fun K hK=>?_;have key2: ∀fr ob nx,kL s[i]=true→Fits 0 fr ob (fin [(0,.c (.str s)),(4,.c (.int .i64 n)),(5,.c (.int .i64 i))]) (fob []) 300→K fr ob nx:=by
    intro fr ob nx hd hf;refine hK _ _ _ (bB hf ?_);clear hf hK K;have hd2:48≤s[i].toNat∧s[i].toNat≤57:=by simpa[kL]using hd
    have e1:IntKind.i64.wrap (10*(n:Int))=((10*n:Nat):Int):=by rw[A8 _ (by omega)];omega
    have e2:IntKind.u8.wrap ((s[i].toNat:Int)-48)=((s[i].toNat-48:Nat):Int):=by rw[P8 _ (by omega)];omega
    have e3:IntKind.i64.wrap ((s[i].toNat-48:Nat):Int)=((s[i].toNat-48:Nat):Int):=by rw[A8 _ (by omega)]
    have e4:IntKind.i64.wrap (((10*n:Nat):Int)+((s[i].toNat-48:Nat):Int))=((10*n+(s[i].toNat-48):Nat):Int):=by rw[A8 _ (by omega)];omega
    refine Rg ?_;iterate 9 refine S0 ?_ (e:=fun _ h_=>by simp only[sH,↓sP,sA,tyS,simprocAttr,A0,A4,hlt,hgd,e1,e2,e3,e4];exact AX h_)
    refine T2 (hK _ _ _ ?_);clear hK K;refine aL (by kernel_rfl) ?_;refine TQ (fS i) ?_;refine⟨⟨(i+1,10*n+(s[i].toNat-48)),hst.next hlt hd⟩,fF,?_⟩;show s.length-(i+1)<s.length-i;omega
   refine RS ?_;iterate 5 refine S0 ?_ (e:=fun _ h_=>by simp only[sH,↓sP,sA,tyS,simprocAttr,A0,A4,hlt,hgd];exact AX h_)
   refine aG 32 rfl (fun h7_32=>?_) (fun h7_32=>?_)
   ·
    iterate 5 refine S0 ?_ (e:=fun _ h_=>by simp only[sH,↓sP,sA,tyS,simprocAttr,A0,A4,hlt,hgd,h7_32];exact AX h_)
    refine RE ?_;refine CT rfl ?_;refine R0 ?_;refine aE (RT Tryz.results83 ?_);have hd:kL s[i]=false:=by simp only[kL,K9,C6];simp at h7_32;omega
    have hn:=qI (hst.bad hlt hd);exact aO [] (.int .i64 0) (.bool false) rfl ⟨by rw[hn];rfl,by rw[hn];rfl⟩
   iterate 5 refine S0 ?_ (e:=fun _ h_=>by simp only[sH,↓sP,sA,tyS,simprocAttr,A0,A4,hlt,hgd,h7_32];exact AX h_)
   refine aG 37 rfl (fun h7_37=>?_) (fun h7_37=>?_)
   ·
    simp only[h7_37];refine RE ?_;refine CT rfl ?_;refine R0 ?_;refine aE (RT Tryz.results83 ?_);have hd:kL s[i]=false:=by simp only[kL,K9,C6];simp at h7_37;omega
    have hn:=qI (hst.bad hlt hd);exact aO [] (.int .i64 0) (.bool false) rfl ⟨by rw[hn];rfl,by rw[hn];rfl⟩
   simp only[h7_37];refine RE ?_;refine CF rfl ?_;refine aJ (T3 ?_);exact key2 _ _ _ (by simp only[kL,A6,B9];simp at h7_32 h7_37;omega) (fF)
  refine bG (T3 ?_);clear hK K;refine AX (hK _ _ _ ?_);clear hK K;refine aC fun K hK=>?_;have hfin:=hst.fin (by simp at hb;omega);clear hb;refine R0 ?_;refine aF (b:=decide ((1099511627776:Int)<(n:Int))) rfl (fun hb=>?_) (fun hb=>?_)
  · refine R0 ?_;refine aE (RT Tryz.results83 ?_);have hn:=aU1 hfin (by simp at hb;omega);exact aO [] (.int .i64 0) (.bool false) rfl ⟨by rw[hn];rfl,by rw[hn];rfl⟩
  refine aJ ?_;refine T0 (hK _ _ _ ?_);clear hK K;refine R0 ?_;refine aE (RT Tryz.results83 ?_);have hn:=aL6 hbad hfin (by simp at hb;omega);exact aO [] (.int .i64 n) (.bool true) rfl ⟨by rw[hn];rfl,by rw[hn];rfl⟩
 refine aC fun K hK=>Rg ?_;refine AU ?_;refine aG 7 rfl (fun h1_7=>?_) (fun h1_7=>?_)
 ·
  have F:=h1_7;refine AU ?_;refine T2 (hK _ _ _ ?_);clear hK K;refine CT rfl ?_;refine R0 ?_;refine aE (RT Tryz.results83 ?_);have hs:s=[]:=by simpa using h1_7
  subst hs;exact aO [] (.int .i64 0) (.bool false) rfl ⟨rfl,rfl⟩
 have F:=h1_7;refine AU ?_;refine aG 11 rfl (fun h1_11=>?_) (fun h1_11=>?_)
 · have F:=aI h1_7 h1_11;refine AU ?_;refine T2 (hK _ _ _ ?_);clear hK K;refine CT rfl ?_;refine R0 ?_;refine aE (RT Tryz.results83 ?_);have hn:bP s=none:=oX (by simp only[fK,N8,B9];simp at h1_11;left;right;omega);exact aO [] (.int .i64 0) (.bool false) rfl ⟨by rw[hn];rfl,by rw[hn];rfl⟩
 have F:=aI h1_7 h1_11;refine SF ?_;refine aW (g:=some (13,false)) rfl rfl fun K' hK'=>T6 ?_;refine⟨by have:=J0.2 (show s≠[]by simpa using h1_7);omega,?_⟩;refine AX (hK' _ _ ?_);clear hK' K';refine AU ?_;refine aG 16 rfl (fun h1_16=>?_) (fun h1_16=>?_)
 ·
  have F:=aI h1_7 (aI h1_11 h1_16);refine AU ?_;refine aG 20 rfl (fun h1_20=>?_) (fun h1_20=>?_)
  ·
   simp only[h1_20];refine T2 (hK _ _ _ ?_);clear hK K;refine CT rfl ?_;refine R0 ?_;refine aE (RT Tryz.results83 ?_);have hn:bP s=none:=oX (by
    simp only[fK,N8,A6,B9,G9];right;refine⟨by simp at h1_20;omega,N9.1 ?_⟩;simp only[G9]at h1_16;show(s.getD 0 0).toNat=48;omega)
   exact aO [] (.int .i64 0) (.bool false) rfl ⟨by rw[hn];rfl,by rw[hn];rfl⟩
  simp only[h1_20];refine T2 (hK _ _ _ ?_);clear hK K;refine CF rfl ?_;refine aJ (T3 ?_);refine key _ _ _ ?_ (fF);have hs:=J0.2 (show s≠[]by simpa using h1_7);simp only[fK,K7,K9,C6,I0,AG];simp only[C6,B9]at h1_11;refine⟨⟨by omega,by omega⟩,?_⟩;first
   |(left;simp at h1_20;omega)
   |(right;intro h0;rw[h0]at h1_16;simp at h1_16)
 have F:=aI h1_7 (aI h1_11 h1_16);refine AU ?_;refine T2 (hK _ _ _ ?_);clear hK K;refine CF rfl ?_;refine aJ (T3 ?_);refine key _ _ _ ?_ (fF);have hs:=J0.2 (show s≠[]by simpa using h1_7);simp only[fK,K7,K9,C6,I0,AG];simp only[C6,B9]at h1_11;refine⟨⟨by omega,by omega⟩,?_⟩;first
  |(left;simp at h1_20;omega)
  |(right;intro h0;rw[h0]at h1_16;simp at h1_16)
theorem aX3 (c:UInt8):cG Tryz.prog 44 [.int .u8 c.toNat] (fun v=>v= .int .i64 (valH c:Nat)):=by
 refine FW Tryz.func44 ?_;refine R0 ?_;refine aC fun K hK=>?_;refine aC fun K hK=>Rg ?_;iterate 3 refine S0 ?_
 refine aG 4 rfl (fun h1_4=>?_) (fun h1_4=>?_)
 ·
  have F:=h1_4;iterate 3 refine SF ?_
  refine aG 7 rfl (fun h1_7=>?_) (fun h1_7=>?_)
  ·
   simp only[h1_7];refine T2 (hK _ _ _ ?_);clear hK K;refine CT rfl ?_;have e1:IntKind.u8.wrap ((c.toNat:Int)-48)=((c.toNat-48:Nat):Int):=by simp at h1_4 h1_7;rw[P8 _ (by omega)];omega
   have e2:IntKind.i64.wrap ((c.toNat-48:Nat):Int)=((c.toNat-48:Nat):Int):=by have:=c.toNat_lt;rw[A8 _ (by omega)]
   refine aC fun K hK=>Rg ?_;have F:=aI e1 (aI e2 (aI h1_4 h1_7));iterate 4 refine SF ?_
   refine T2 (hK _ _ _ ?_);clear hK K;refine aE (RT Tryz.results44 ?_);refine aK [] _ rfl ?_;simp only[B9,C6]at*;refine congrArg (CV.int IntKind.i64) ?_;unfold valH;split<;>(try split)<;>omega
  simp only[h1_7];refine T2 (hK _ _ _ ?_);clear hK K;refine CF rfl ?_;refine aJ ?_;refine T0 (hK _ _ _ ?_);clear hK K;refine aC fun K hK=>?_;refine aC fun K hK=>Rg ?_;have F:=aI h1_4 h1_7;iterate 3 refine SF ?_
  refine aG 13 rfl (fun h3_13=>?_) (fun h3_13=>?_)
  ·
   have F:=aI h1_4 (aI h1_7 h3_13);iterate 3 refine SF ?_
   refine aG 16 rfl (fun h3_16=>?_) (fun h3_16=>?_)
   ·
    simp only[h3_16];refine T2 (hK _ _ _ ?_);clear hK K;refine CT rfl ?_;have e1:IntKind.u8.wrap ((c.toNat:Int)-65)=((c.toNat-65:Nat):Int):=by simp at h3_13 h3_16;rw[P8 _ (by omega)];omega
    have e2:IntKind.i64.wrap ((c.toNat-65:Nat):Int)=((c.toNat-65:Nat):Int):=by have:=c.toNat_lt;rw[A8 _ (by omega)]
    have e3:IntKind.i64.wrap (((c.toNat-65:Nat):Int)+10)=((c.toNat-65+10:Nat):Int):=by have:=c.toNat_lt;rw[A8 _ (by omega)];omega
    refine aC fun K hK=>Rg ?_;have F:=aI e1 (aI e2 (aI e3 (aI h1_4 (aI h1_7 (aI h3_13 h3_16)))));iterate 5 refine SF ?_
    refine T2 (hK _ _ _ ?_);clear hK K;refine aE (RT Tryz.results44 ?_);refine aK [] _ rfl ?_;simp only[B9,C6]at*;refine congrArg (CV.int IntKind.i64) ?_;unfold valH;split<;>(try split)<;>omega
   simp only[h3_16];refine T2 (hK _ _ _ ?_);clear hK K;refine CF rfl ?_;refine aJ ?_;refine T0 (hK _ _ _ ?_);clear hK K;refine R0 ?_;refine aE (RT Tryz.results44 ?_);refine aK [] _ rfl ?_;simp only[B9,C6]at*;refine congrArg (CV.int IntKind.i64) ?_;unfold valH;split<;>(try split)<;>omega
  have F:=aI h1_4 (aI h1_7 h3_13);iterate 3 refine SF ?_
  refine T2 (hK _ _ _ ?_);clear hK K;refine CF rfl ?_;refine aJ ?_;refine T0 (hK _ _ _ ?_);clear hK K;refine R0 ?_;refine aE (RT Tryz.results44 ?_);refine aK [] _ rfl ?_;simp only[B9,C6]at*;refine congrArg (CV.int IntKind.i64) ?_;unfold valH;split<;>(try split)<;>omega
 have F:=h1_4;iterate 3 refine SF ?_
 refine T2 (hK _ _ _ ?_);clear hK K;refine CF rfl ?_;refine aJ ?_;refine T0 (hK _ _ _ ?_);clear hK K;refine aC fun K hK=>?_;refine aC fun K hK=>Rg ?_;iterate 3 refine SF ?_
 refine aG 13 rfl (fun h3_13=>?_) (fun h3_13=>?_)
 ·
  have F:=aI h1_4 h3_13;iterate 3 refine SF ?_
  refine aG 16 rfl (fun h3_16=>?_) (fun h3_16=>?_)
  ·
   simp only[h3_16];refine T2 (hK _ _ _ ?_);clear hK K;refine CT rfl ?_;have e1:IntKind.u8.wrap ((c.toNat:Int)-65)=((c.toNat-65:Nat):Int):=by simp at h3_13 h3_16;rw[P8 _ (by omega)];omega
   have e2:IntKind.i64.wrap ((c.toNat-65:Nat):Int)=((c.toNat-65:Nat):Int):=by have:=c.toNat_lt;rw[A8 _ (by omega)]
   have e3:IntKind.i64.wrap (((c.toNat-65:Nat):Int)+10)=((c.toNat-65+10:Nat):Int):=by have:=c.toNat_lt;rw[A8 _ (by omega)];omega
   refine aC fun K hK=>Rg ?_;have F:=aI e1 (aI e2 (aI e3 (aI h1_4 (aI h3_13 h3_16))));iterate 5 refine SF ?_
   refine T2 (hK _ _ _ ?_);clear hK K;refine aE (RT Tryz.results44 ?_);refine aK [] _ rfl ?_;simp only[B9,C6]at*;refine congrArg (CV.int IntKind.i64) ?_;unfold valH;split<;>(try split)<;>omega
  simp only[h3_16];refine T2 (hK _ _ _ ?_);clear hK K;refine CF rfl ?_;refine aJ ?_;refine T0 (hK _ _ _ ?_);clear hK K;refine R0 ?_;refine aE (RT Tryz.results44 ?_);refine aK [] _ rfl ?_;simp only[B9,C6]at*;refine congrArg (CV.int IntKind.i64) ?_;unfold valH;split<;>(try split)<;>omega
 have F:=aI h1_4 h3_13;iterate 3 refine SF ?_
 refine T2 (hK _ _ _ ?_);clear hK K;refine CF rfl ?_;refine aJ ?_;refine T0 (hK _ _ _ ?_);clear hK K;refine R0 ?_;refine aE (RT Tryz.results44 ?_);refine aK [] _ rfl ?_;simp only[B9,C6]at*;refine congrArg (CV.int IntKind.i64) ?_;unfold valH;split<;>(try split)<;>omega
theorem aN1 (s:aH)(hl:s.length<2^40):gB Tryz.prog 21 [.str s] (fun u v=>u= .str ((unW s).getD [])∧v= .bool (unW s).isSome):=by
 refine FW Tryz.func21 ?_;refine R0 ?_;refine aC fun K hK=>?_;refine R0 ?_;refine aF (b:=s==[126]) rfl (fun hb=>?_) (fun hb=>?_)
 ·
  refine R0 ?_;refine aE (RT Tryz.results21 ?_);have hs:s=[126]:=by simpa using hb
  subst hs;exact aO [] (.str []) (.bool true) rfl ⟨rfl,rfl⟩
 refine aJ ?_;refine T0 (hK _ _ _ ?_);clear hK K;refine aC fun K hK=>?_;have hne:s≠[126]:=by simpa using hb
 clear hb;refine R0 ?_;refine aF (b:=s==[]) rfl (fun hb=>?_) (fun hb=>?_)
 ·
  refine R0 ?_;refine aE (RT Tryz.results21 ?_);have hs:s=[]:=by simpa using hb
  subst hs;exact aO [] (.str []) (.bool false) rfl ⟨rfl,rfl⟩
 refine aJ ?_;refine T0 (hK _ _ _ ?_);clear hK K;have hne0:s≠[]:=by simpa using hb
 clear hb;refine R0 ?_;refine aC fun K hK=>?_;refine R0 ?_;refine aM ?_;refine iN 4 0 5 1 rfl rfl rfl rfl ?_;refine bN (α:={y:Nat×aH//UnSt s y.1 y.2}) (fun y=>(fin [(0,.c (.str s)),(4,.own 32 y.1.2.length),(5,.c (.int .i64 y.1.1))],fob [(32,.row 5 1 (y.1.2.map dG))])) 100 (fun y=>s.length-y.1.1) ⟨(0,[]),UnSt.init s⟩ (fF) ?_;rintro⟨⟨i,out⟩,hst⟩;simp only at hst;have hi:=hst.1;have ho:=hst.2.2.2;refine aC fun K hK=>?_;refine AU ?_;refine aF (b:=decide ((i:Int)<s.length)) rfl (fun hb=>?_) (fun hb=>?_)
 ·
  have hlt:i<s.length:=by simpa using hb
  clear hb;have hgd:s.getD i 0=s[i]:=by simp[hlt]
  refine aJ ?_;refine T0 (hK _ _ _ ?_);clear hK K;refine aC fun K hK=>?_;refine aM ?_;refine aC fun K hK=>?_;refine aC fun K hK=>Rg ?_;iterate 3 refine S0 ?_ (e:=fun _ h_=>by simp only[sH,↓sP,sA,tyS,simprocAttr,A0,A4,hlt,hgd];exact AX h_)
  refine HS rfl rfl fun K' hK'=>?_;simp only[sH,↓sP,sA,tyS,simprocAttr,A0,A4,hlt,hgd];refine C1 (vA s[i]) ?_;rintro u rfl;refine AX (hK' _ _ ?_);clear hK' K';refine T2 (hK _ _ _ ?_);clear hK K;refine aF (b:=cY s[i]) rfl (fun hb=>?_) (fun hb=>?_)
  ·
   refine RS ?_;iterate 7 refine S0 ?_ (e:=fun _ h_=>by simp only[sH,↓sP,sA,tyS,simprocAttr,A0,A4,hlt,hgd,A3,A2];exact AX h_)
   refine RE ?_;refine bG (T3 ?_);clear hK K;refine AX (hK _ _ _ ?_);clear hK K;refine aL (by kernel_rfl) ?_;refine TQ (fS i) ?_;refine⟨⟨(i+1,out++[s[i]]),hst.plain hlt hb⟩,aP (by omega) ?_ ?_,?_⟩
   · simp
   · simp only[dC,C5];exact⟨rfl,by omega,trivial,trivial⟩
   show s.length-(i+1)<s.length-i;omega
  refine aJ ?_;refine T0 (hK _ _ _ ?_);clear hK K;refine aC fun K hK=>?_;have hp:cY s[i]=false:=hb;clear hb;have hw1:IntKind.i64.wrap ((i:Int)+1)=((i+1:Nat):Int):=by rw[A8 _ (by omega)];rfl
  have hw2:IntKind.i64.wrap ((i:Int)+2)=((i+2:Nat):Int):=by rw[A8 _ (by omega)];rfl
  have hw3:IntKind.i64.wrap (((i+2:Nat):Int)+1)=((i+3:Nat):Int):=by rw[A8 _ (by omega)];rfl
  have hwd:IntKind.i64.wrap ((s.length:Int)-(i:Int))=((s.length-i:Nat):Int):=by rw[A8 _ (by omega)];omega
  refine RS ?_;iterate 5 refine S0 ?_ (e:=fun _ h_=>by simp only[sH,↓sP,sA,tyS,simprocAttr,A0,A4,hlt,hgd,hwd];exact AX h_)
  refine aG 31 rfl (fun h11_31=>?_) (fun h11_31=>?_)
  ·
   iterate 6 refine S0 ?_ (e:=fun _ h_=>by simp only[sH,↓sP,sA,tyS,simprocAttr,A0,A4,hlt,hgd,hwd,h11_31];exact AX h_)
   refine RE ?_;refine CT rfl ?_;refine R0 ?_;refine aE (RT Tryz.results21 ?_);have h37:s[i]≠37:=by rintro h;rw[h]at h11_31;simp at h11_31
   have hn:=iB (hst.bad1 hlt hp (.inl h37)) hne;exact aO [] (.str []) (.bool false) rfl ⟨by rw[hn];rfl,by rw[hn];rfl⟩
  iterate 6 refine S0 ?_ (e:=fun _ h_=>by simp only[sH,↓sP,sA,tyS,simprocAttr,A0,A4,hlt,hgd,hwd,h11_31];exact AX h_)
  refine aG 37 rfl (fun h11_37=>?_) (fun h11_37=>?_)
  ·
   simp only[h11_37];refine RE ?_;refine CT rfl ?_;refine R0 ?_;refine aE (RT Tryz.results21 ?_);have hi2:s.length≤i+2:=by simp at h11_37;omega
   have hn:=iB (hst.bad1 hlt hp (.inr hi2)) hne;exact aO [] (.str []) (.bool false) rfl ⟨by rw[hn];rfl,by rw[hn];rfl⟩
  simp only[h11_37];refine RE ?_;refine CF rfl ?_;refine aJ ?_;refine T0 (hK _ _ _ ?_);clear hK K;have h37:s[i]=37:=by
   simp only[S8]at h11_31;exact N9.1 (by show s[i].toNat=37;omega)
  have hi2:i+2<s.length:=by simp at h11_37;omega
  have hi1:i+1<s.length:=by omega
  have hg1:s.getD (i+1) 0=s[i+1]:=by simp[hi1]
  have hg2:s.getD (i+2) 0=s[i+2]:=by simp[hi2]
  refine aC fun K hK=>DW [(0,[],[]),(1,[],[]),(2,[],[]),(3,[],[]),(5,[],[]),(6,[],[]),(7,[],[]),(8,[],[]),(4,[],[5,6,7,8]),(9,[],[]),(10,[],[]),(11,[],[])] [0,0,2,7,15,0,0,64,224,511,1023,2047] ?_;have F:=aI @A0 (aI @A4 (aI hw1 (aI hw2 (aI hg1 (aI hg2 (aI hi1 (aI hi2 (aI h11_31 h11_37))))))));iterate 8 refine WF ?_
  refine cT (g:=none) rfl rfl fun K' hK'=>T6 ?_;refine C1 (aX3 s[i+1]) ?_;rintro u rfl;refine AX (hK' _ _ ?_);clear hK' K';refine cT (g:=none) rfl rfl fun K' hK'=>T6 ?_;refine C1 (aX3 s[i+2]) ?_;rintro u rfl;refine AX (hK' _ _ ?_);clear hK' K';iterate 2 refine WF ?_
  refine T2 (hK _ _ _ ?_);clear hK K;refine aC fun K hK=>?_;by_cases hx:valH s[i+1]<16
  ·
   by_cases hy:valH s[i+2]<16
   ·
    have hx0:(((valH s[i+1]:Nat):Int)==16)=false:=by rw[I0];omega
    have hy0:(((valH s[i+2]:Nat):Int)==16)=false:=by rw[I0];omega
    have e1:IntKind.i64.wrap (16*((valH s[i+1]:Nat):Int))=((16*valH s[i+1]:Nat):Int):=by rw[A8 _ (by omega)];omega
    have e2:IntKind.i64.wrap (((16*valH s[i+1]:Nat):Int)+((valH s[i+2]:Nat):Int))=((16*valH s[i+1]+valH s[i+2]:Nat):Int):=by rw[A8 _ (by omega)];omega
    have e3:IntKind.u8.wrap ((16*valH s[i+1]+valH s[i+2]:Nat):Int)=((byteH s[i+1] s[i+2]).toNat:Int):=by rw[P8 _ (by omega),uU hx hy]
    refine RS ?_;have F:=aI hx0 (aI hy0 (aI e1 (aI e2 (aI e3 (aI h11_31 h11_37)))));refine AU ?_;refine SCF (vA (byteH s[i+1] s[i+2])) ?_;refine AU ?_;refine aF (b:=cY (byteH s[i+1] s[i+2])) rfl (fun hb=>?_) (fun hb=>?_)
    · refine R0 ?_;refine aE (RT Tryz.results21 ?_);have hn:=iB (hst.bad2 hi2 h37 (by simp[okH,hx,hy,hb])) hne;exact aO [] (.str []) (.bool false) rfl ⟨by rw[hn];rfl,by rw[hn];rfl⟩
    refine aJ ?_;refine T0 (hK _ _ _ ?_);clear hK K;refine RS ?_;have F:=aI @A0 (aI @A3.{0} (aI @A2.{0,0} (aI e1 (aI e2 (aI e3 (aI h11_31 h11_37))))));refine AU ?_;refine aL (by kernel_rfl) ?_;refine TQ hw2 ?_;refine AX (hK _ _ _ ?_);clear hK K;refine aL (by kernel_rfl) ?_;refine TQ hw3 ?_;refine⟨⟨(i+3,out++[byteH s[i+1] s[i+2]]),hst.esc hi2 h37 (by simp[okH,hx,hy,hb])⟩,aP (by omega) ?_ ?_,?_⟩
    · simp
    · simp only[dC,C5];exact⟨rfl,by omega,trivial,trivial⟩
    show s.length-(i+3)<s.length-i;omega
   have hx0:(((valH s[i+1]:Nat):Int)==16)=false:=by rw[I0];omega
   have hy0:(((valH s[i+2]:Nat):Int)==16)=true:=by have:=bH6 s[i+2];rw[G9];omega
   refine RS ?_;have F:=aI hx0 (aI hy0 (aI h11_31 h11_37));refine AU ?_;refine CT rfl ?_;refine R0 ?_;refine aE (RT Tryz.results21 ?_);have hn:=iB (hst.bad2 hi2 h37 (by simp[okH,hx,hy])) hne;exact aO [] (.str []) (.bool false) rfl ⟨by rw[hn];rfl,by rw[hn];rfl⟩
  have hx0:(((valH s[i+1]:Nat):Int)==16)=true:=by have:=bH6 s[i+1];rw[G9];omega
  refine RS ?_;have F:=aI hx0 (aI h11_31 h11_37);refine AU ?_;refine CT rfl ?_;refine R0 ?_;refine aE (RT Tryz.results21 ?_);have hn:=iB (hst.bad2 hi2 h37 (by simp[okH,hx])) hne;exact aO [] (.str []) (.bool false) rfl ⟨by rw[hn];rfl,by rw[hn];rfl⟩
 refine bG (T3 ?_);clear hK K;refine AX (hK _ _ _ ?_);clear hK K;have hei:i=s.length:=by simp at hb;omega
 have hfin:=hst.fin hei hne;have ho0:out≠[]:=fun h=>hne0 (D5 (by have:=hst.2.2.1 h;omega));rw[A7 ho0]at hfin;refine cM [32] (bB (fr2:=fin [(4,.c (.slc (out.map dG)))]) (ob2:=fob []) (nx2:=200) (aP (by omega) (by simp[dE]) (by simp)) ?_);refine RS ?_;have F:=aI @bytesC_map @A2.{0,0};refine AU ?_;refine aE (RT Tryz.results21 ?_);exact aO [] (.str out) (.bool true) rfl ⟨by rw[hfin];rfl,by rw[hfin];rfl⟩
end Go.Proofs.YtlgckianjabghaaGreatDoor
