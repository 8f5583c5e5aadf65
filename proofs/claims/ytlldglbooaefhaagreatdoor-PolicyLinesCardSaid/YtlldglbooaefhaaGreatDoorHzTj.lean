/- Part of a proof: walks of functions of the program, by contracts, and the rules they use. By an AI agent. -/
import Derived.Test.YtlldglbooaefhaaGreatDoorHzU1
import Derived.Test.YtlldglbooaefhaaGreatDoorHzV3
import Derived.Test.YtlldglbooaefhaaGreatDoorHlTlaw
import Derived.Test.YtlldglbooaefhaaGreatDoorHlIt
import Derived.Test.YtlldglbooaefhaaGreatDoorPl11w
import Derived.Test.YtlldglbooaefhaaGreatDoorPl03c
import Derived.Test.YtlldglbooaefhaaGreatDoorPl28q
set_option linter.unusedSimpArgs false
set_option linter.unusedVariables false
set_option linter.defProp false
namespace Go.Proofs.YtlldglbooaefhaaGreatDoor
open Go Go.Hl Go.Pl
set_option maxRecDepth 10000
set_option maxHeartbeats 16000000
def lsC (l:List aF):CV:= .slc (l.map .str)
theorem eS (l:List aF):(lsC l).cells=1:=rfl
theorem jT (l:List aF):(lsC l).denil=lsC l:=by simp only[lsC,CV.denil,denilL_str]
theorem aT (l:List (List aF)):CV.denilL (l.map lsC)=l.map lsC:=cT jT l
theorem cL1 (b:aF)(hl:b.length<2^40):gT Tryz.prog 62 [.slc (b.map u8)] (fun u v=>u= .slc ((decO b).map lsC)∧v= .int .i64 (eL b)):=by
 refine FW Tryz.func62 ?_;have F:=rI;refine RF ?_;refine bQ7 ?_;refine aB fun K hK=>?_;have F:=aI rI @List.length_map.{0,0};refine RF ?_;refine aG (b:=decide ((262144:Int)<b.length)) rfl (fun hb=>?_) (fun hb=>?_)
 ·
  have F:=rI;refine RF ?_;refine aE ?_;simp only[fW,Tryz.results62,fK,fV,fC,↓sP,sA,tyS,simprocAttr,rI];have hE:eL b=3:=by unfold eL;rw[if_pos (by simp at hb;omega)]
  refine aO [] (.slc []) (.int .i64 3) ?_ ⟨by simp only[decO,hE];rfl,by rw[hE]⟩;simp[HV.close,HV.closeL,CV.denil,CV.denilL,HV.norm,HV.toC,HV.toCL]
 refine aJ ?_;refine TQ rI ?_;refine AX (hK _ _ _ ?_);clear hK K;have hle:b.length≤262144:=by simp at hb;omega
 clear hb;have F:=rI;refine RF ?_;refine RF ?_;refine aB fun K hK=>?_;refine bO4 ?_;try simp only[↓sP,sA,tyS,simprocAttr,rI]
 refine AX (hK _ _ _ ?_);clear hK K;refine aB fun K hK=>?_;have key: ∀(ok:Bool) (ls:List (List aF)) fr ob nx,(ok=true→gG b=some ls)→(ok=false→gG b=none)→ls.length≤b.length→Fits 0 fr ob (fin [(4,.own 32 ls.length),(5,.ptr 24 0)]) (fob [(24,.box 4 (.c (.bool ok))),(32,.row 60 1 (ls.map lsC))]) 1000→K fr ob nx:=by
  intro ok ls fr ob nx h1 h2 h3 hf;refine hK _ _ _ (bH hf ?_);clear hf hK K;refine aB fun K hK=>?_;cases ok
  ·
   refine aB fun K hK=>Rg ?_;have F:=aI rI @List.length_map.{0,0};iterate 7 refine SF ?_
   simp only[sE,↓reduceIte,simprocAttr,rI];refine AX (hK _ _ _ ?_);clear hK K;refine CT rfl ?_;have F:=rI;refine RF ?_;refine aE ?_;simp only[fW,Tryz.results62,fK,fV,fC,↓sP,sA,tyS,simprocAttr,rI];have hE:eL b=2:=by unfold eL;rw[if_neg (by omega),h2 rfl]
   refine aO [] (.slc []) (.int .i64 2) ?_ ⟨by simp only[decO,hE];rfl,by rw[hE]⟩;simp[HV.close,HV.closeL,CV.denil,CV.denilL,HV.norm,HV.toC,HV.toCL]
  refine aB fun K hK=>Rg ?_;have F:=aI rI @List.length_map.{0,0};iterate 7 refine SF ?_
  simp only[sE,↓reduceIte,simprocAttr,rI];refine AX (hK _ _ _ ?_);clear hK K;refine aG (b:=decide ((1000:Int)<ls.length)) rfl (fun hb=>?_) (fun hb=>?_)
  ·
   have F:=rI;refine RF ?_;refine aE ?_;simp only[fW,Tryz.results62,fK,fV,fC,↓sP,sA,tyS,simprocAttr,rI];have hE:eL b=2:=by unfold eL;rw[if_neg (by omega),h1 rfl];simp only;rw[if_pos (by simp at hb;omega)]
   refine aO [] (.slc []) (.int .i64 2) ?_ ⟨by simp only[decO,hE];rfl,by rw[hE]⟩;simp[HV.close,HV.closeL,CV.denil,CV.denilL,HV.norm,HV.toC,HV.toCL]
  refine aJ ?_;refine TQ rI ?_;refine AX (hK _ _ _ ?_);clear hK K;have F:=rI;refine RF ?_;refine aE ?_;simp only[fW,Tryz.results62,fK,fV,fC,↓sP,sA,tyS,simprocAttr,rI];have hE:eL b=0:=by unfold eL;rw[if_neg (by omega),h1 rfl];simp only;rw[if_neg (by simp at hb;omega)]
  refine aO [32] (.slc (ls.map lsC)) (.int .i64 0) ?_ ⟨by simp only[decO,hE,h1 rfl];rfl,by rw[hE]⟩;simp[HV.close,fob_at,upd_at,HV.norm,HV.toC,HV.closeL,HV.toCL,CV.denil,aT]
 refine aN ?_;refine kC 4 0 60 1 rfl rfl rfl rfl ?_;refine bS (α:={y:aF×List (List aF)//DecSt b y.1 y.2}) (fun y=>(fin [(0,.c (.slc (y.1.1.map u8))),(4,.own 32 y.1.2.length),(5,.ptr 24 0)],fob [(24,.box 4 (.c (.bool true))),(32,.row 60 1 (y.1.2.map lsC))])) 100 (fun y=>y.1.1.length) ⟨(b,[]),DecSt.init b⟩ (fF) ?_;rintro⟨⟨rest,ls⟩,hst⟩;simp only at hst;have hr1:=hst.2.1;have hr2:=hst.2.2;refine aB fun K hK=>?_;have F:=aI rI @List.length_map.{0,0};refine RF ?_;refine aG (b:=decide ((0:Int)<rest.length)) rfl (fun hb=>?_) (fun hb=>?_)
 ·
  refine aJ ?_;refine TQ rI ?_;refine AX (hK _ _ _ ?_);clear hK K;refine aN ?_;have hne:rest≠[]:=by rintro rfl;simp at hb
  clear hb;refine aB fun K hK=>bX (by kernel_rfl) ?_;simp only[sR,simprocAttr];have F:=aI rI @denilL_u8;refine SGF ?_;refine dJ (g:=none) 116 rfl rfl fun K' hK'=>?_;simp only[iJ,lB,sH,↓sP,sA,tyS,simprocAttr,rI,denilL_u8];repeat refine AI ?_
  refine dT (by first|rfl|simp) ?_;try simp only[sH,↓sP,sA,tyS,simprocAttr,rI,denilL_u8]
  refine AX (hK' _ _ ?_);clear hK' K';refine bZ (g:=none) rfl rfl fun K' hK'=>T6 ?_;refine mJ (args:=[_,_]) (cB9 rest 10 (by omega)) ⟨rfl,rfl,rfl,rfl⟩ ?_;rintro u v x ⟨li,re,fd,rfl,rfl,rfl,hcut⟩;have hlt:=hcut.lt hne;refine AX (hK' _ _ ?_);clear hK' K';iterate 7 refine SGF ?_
  simp only[sE,↓reduceIte,simprocAttr,rI];refine AX (hK _ _ _ ?_);clear hK K;have F:=rI;refine RF ?_;refine aB fun K hK=>?_;refine aB fun K hK=>bX (by kernel_rfl) ?_;simp only[sR,simprocAttr];refine SG0 ?_ (e:=fun _ h_=>by simp only[sH,↓sP,sA,tyS,simprocAttr,rI,denilL_u8,mW,iF,List.range',List.map_cons,List.map_nil];exact AX h_);refine dJ (g:=none) 160 rfl rfl fun K' hK'=>?_;simp only[iJ,lB,sH,↓sP,sA,tyS,simprocAttr,rI,denilL_u8,mW,iF,List.range',List.map_cons,List.map_nil];repeat refine AI ?_
  refine dT (by first|rfl|simp) ?_;try simp only[sH,↓sP,sA,tyS,simprocAttr,rI,denilL_u8,mW,iF,List.range',List.map_cons,List.map_nil]
  refine AX (hK' _ _ ?_);clear hK' K';refine bZ (g:=none) rfl rfl fun K' hK'=>?_;simp only[sH,↓sP,sA,tyS,simprocAttr,rI,denilL_u8,mW,iF,List.range',List.map_cons,List.map_nil];refine tI (args:=[_,_]) (bI4 li 32) (by simp) ⟨rfl,rfl,rfl,rfl⟩ ?_;refine AX (hK' _ _ ?_);clear hK' K';simp only[sE,↓reduceIte,simprocAttr,rI];refine AX (hK _ _ _ ?_);clear hK K;refine aN ?_;refine qZ 152 0 9 1 rfl rfl rfl rfl ?_;refine aA6 (ids:=[164,165,166]) (fin [(0,.c (.slc (rest.map u8))),(4,.own 32 ls.length),(5,.ptr 24 0),(7,.c (.slc (re.map u8))),(8,.c (.bool fd)),(9,.ptr 152 0)]) (fun i=>fob [(24,.box 4 (.c (.bool true))),(32,.row 60 1 (ls.map lsC)),(152,.box 60 (.own 168 i)),(168,.row 9 1 ((wsT li i).map .str))]) 200 (fun i=>aN0 li i) (fun p hp=>by simp at hp) (aY7 li 32 (by omega)) rfl rfl (by decide) ?_ ?_ ?_ ?_ ?_ rfl rfl ?_ ?_
  ·
   intro j x hx
   match j,hx with
   |0,hx=>cases hx;rfl
   |1,hx=>cases hx;rfl
   |2,hx=>cases hx;rfl
  · exact aL (by omega) (by simp[aY,fin_at,finA_at,upd_at,HV.men,HV.menL,HV.norm,HV.toC,HV.toCL]) (by simp[aZ,fob_at,upd_at,none0_at,bV,mW,wsT,HO.men,HV.men,HV.menL,HV.norm,HV.toC,HV.toCL])
  · intro id hid;simp only[List.mem_cons,List.not_mem_nil,or_false]at hid;rcases hid with rfl|rfl|rfl<;>rfl
  · intro x hx;obtain⟨p,_,rfl⟩:=List.mem_map.1 hx;rfl
  · intro p hp;simp only[List.mem_cons,List.not_mem_nil,or_false]at hp;subst hp;exact Nat.le_of_ble_eq_true rfl
  ·
   intro i hi hΦ K hK;have hi':i<(aS 32 li).length:=by simpa using hi
   have hwl:=qA (r:=li) (Nat.le_of_lt hi');have hsl:=eX 32 li;obtain⟨p,hp⟩: ∃p,p=(aS 32 li)[i]:=⟨_,rfl⟩;have hpl:p.length≤li.length:=by rw[hp];exact mH 32 li _ (List.getElem_mem hi')
   have hx:(List.map (fun p=>[CV.slc (List.map u8 p)]) (aS 32 li))[i]=[CV.slc (p.map u8)]:=by rw[List.getElem_map,hp]
   rw[hx];simp only[xD];have hbc:jB (p.map u8)=some p:=bytesC_map p;refine aK (by kernel_rfl) ?_;refine TQ rI ?_;refine AX (hK _ _ _ ?_);clear hK K;refine aN ?_;refine aB fun K hK=>Rg ?_;have F:=aI rI hbc;iterate 2 refine SF ?_
   refine HS rfl rfl fun K' hK'=>T6 ?_;refine D1 (cL0 p (by omega)) ?_;rintro u v ⟨rfl,rfl⟩;refine AX (hK' _ _ ?_);clear hK' K';iterate 5 refine SF ?_
   simp only[sE,↓reduceIte,simprocAttr,rI];refine AX (hK _ _ _ ?_);clear hK K;refine aB fun K hK=>?_;have F:=rI;refine RF ?_;refine aG (b:=!(unW p).isSome) rfl (fun hb=>?_) (fun hb=>?_)
   · refine RF ?_;refine bI ?_;refine TQ rI ?_;clear hK K;clear hK K;exact key false ls _ _ _ (fun h=>by cases h) (fun _=>hst.bad hcut hne (bP9 hi' (by rw[←hp];simpa using hb))) (by omega) (fF)
   refine aJ ?_;refine TQ rI ?_;refine AX (hK _ _ _ ?_);clear hK K;refine Rg ?_;have F:=aI rI (aI @List.length_append.{0} (aI @List.length_map.{0,0} hwl));iterate 5 refine SF ?_
   simp only[sE,↓reduceIte,simprocAttr,rI];refine⟨(show Fits 200 _ _ (fin []) _ 200 from aL (by omega) trivial ?_),zZ hi' hΦ (by rw[←hp];simpa using hb)⟩;rw[aN1 hi',←hp];simp[aZ,fob_at,upd_at,none0_at,bV,HO.men,HV.men,HV.menL,HV.norm,HV.toC,HV.toCL]
  intro hΦ;simp only[sE,↓reduceIte,simprocAttr,rI];rw[List.length_map]at hΦ⊢;have hwl:=qA (r:=li) (Nat.le_refl _);have hul:=cB3 hΦ;have hsl:=eX 32 li;obtain⟨ws,hws⟩: ∃ws,ws=wsT li (aS 32 li).length:=⟨_,rfl⟩;rw[←hws]at hul hwl;rw[←hws,←hwl];refine AX (hK _ _ _ ?_);clear hK K;refine aB fun K hK=>?_;cases fd
  ·
   refine dF [168] (bH (fr2:=fin [(0,.c (.slc (rest.map u8))),(4,.own 32 ls.length),(5,.ptr 24 0),(7,.c (.slc (re.map u8))),(8,.c (.bool false)),(9,.ptr 152 0)]) (ob2:=fob [(24,.box 4 (.c (.bool true))),(32,.row 60 1 (ls.map lsC)),(152,.box 60 (.c (.slc (ws.map .str))))]) (nx2:=300) (aL (by omega) (by simp[aY,eB,fin_at,finA_at,upd_at,fob_at,HV.close,HV.closeL,CV.denil,CV.denilL,denilL_u8,HV.men,HV.menL,HV.norm,HV.toC,HV.toCL]) (by simp[aZ,eC,fob_at,upd_at,none0_at,bV,HO.close,HV.close,HV.closeL,CV.denil,denilL_str,HO.men,HV.men,HV.menL,HV.norm,HV.toC,HV.toCL])) ?_);refine aB fun K hK=>Rg ?_;iterate 7 refine SF ?_
   simp only[sE,↓reduceIte,simprocAttr,rI];refine AX (hK _ _ _ ?_);clear hK K;refine CT rfl ?_;refine RF ?_;refine bI ?_;refine TQ rI ?_;clear hK K;exact key false ls _ _ _ (fun h=>by cases h) (fun _=>hst.bad0 hcut hne) (by omega) (fF)
  refine dF [168] (bH (fr2:=fin [(0,.c (.slc (rest.map u8))),(4,.own 32 ls.length),(5,.ptr 24 0),(7,.c (.slc (re.map u8))),(8,.c (.bool true)),(9,.ptr 152 0)]) (ob2:=fob [(24,.box 4 (.c (.bool true))),(32,.row 60 1 (ls.map lsC)),(152,.box 60 (.c (.slc (ws.map .str))))]) (nx2:=300) (aL (by omega) (by simp[aY,eB,fin_at,finA_at,upd_at,fob_at,HV.close,HV.closeL,CV.denil,CV.denilL,denilL_u8,HV.men,HV.menL,HV.norm,HV.toC,HV.toCL]) (by simp[aZ,eC,fob_at,upd_at,none0_at,bV,HO.close,HV.close,HV.closeL,CV.denil,denilL_str,HO.men,HV.men,HV.menL,HV.norm,HV.toC,HV.toCL])) ?_);refine aB fun K hK=>Rg ?_;iterate 4 refine SF ?_
  refine aP (g:=some (44,false)) rfl rfl fun K' hK'=>T6 ?_;refine C1 (aO6 ws (by omega)) ?_;rintro u rfl;refine AX (hK' _ _ ?_);clear hK' K';iterate 2 refine SF ?_
  simp only[sE,↓reduceIte,simprocAttr,rI];refine AX (hK _ _ _ ?_);clear hK K;refine aG (b:=mF ws !=0) rfl (fun hb=>?_) (fun hb=>?_)
  · refine RF ?_;refine bI ?_;refine TQ rI ?_;clear hK K;exact key false ls _ _ _ (fun h=>by cases h) (fun _=>hst.bad hcut hne (by rw[hul,if_neg];unfold okL;simpa using hb)) (by omega) (fF)
  refine aJ ?_;refine TQ rI ?_;refine AX (hK _ _ _ ?_);clear hK K;refine Rg ?_;have F:=aI rI (aI @List.length_append.{0} @List.length_map.{0,0});iterate 7 refine SF ?_
  simp only[sE,↓reduceIte,simprocAttr,rI];have hok:okL ws=true:=by unfold okL;simpa using hb
  refine⟨⟨(re,ls++[ws]),hst.next hcut hne (by rw[hul,if_pos hok])⟩,aL (by omega) ?_ ?_,hlt.1⟩
  · simp[aY,upd_at,fin_at,HV.men]
  simp only[aZ,List.map_append];exact⟨rfl,by omega,trivial,rfl,by omega,trivial,trivial⟩
 refine bI ?_;refine TQ rI ?_;clear hK K;have hr0:rest=[]:=by simpa using hb
 subst hr0;exact key true ls _ _ _ (fun _=>hst.fin) (fun h=>by cases h) (by omega) (fF)
theorem aS3 (w:aF)(hl:w.length<2^40):cG Tryz.prog 67 [.str w] (fun v=>v= .str (iG w)):=by
 refine FW Tryz.func67 ?_;refine R0 ?_;refine aB fun K hK=>?_;refine R0 ?_;refine aG (b:=w==[]) rfl (fun hb=>?_) (fun hb=>?_)
 · refine R0 ?_;refine aE (RT Tryz.results67 ?_);exact aH [] (.str [126]) rfl (by rw[iG,if_pos (by simpa using hb)])
 refine aJ ?_;refine T0 (hK _ _ _ ?_);clear hK K;have hne:w≠[]:=by simpa using hb
 clear hb;refine R0 ?_;refine R0 ?_;refine aB fun K hK=>?_;refine R0 ?_;refine aN ?_;refine kC 4 0 5 1 rfl rfl rfl rfl ?_;refine bS (α:={i:Nat//i≤w.length}) (fun i=>(fin [(0,.c (.str w)),(3,.c (.str [48,49,50,51,52,53,54,55,56,57,65,66,67,68,69,70])),(4,.own 24 (dA (w.take i.1)).length),(5,.c (.int .i64 i.1))],fob [(24,.row 5 1 ((dA (w.take i.1)).map dM))])) 100 (fun i=>w.length-i.1) ⟨0,by omega⟩ (fF) ?_;rintro⟨i,hi⟩;have hle:=lD w i;have hle3:=rC w;refine aB fun K hK=>?_;refine aB fun K hK=>Rg ?_;iterate 4 refine S0 ?_
 refine T2 (hK _ _ _ ?_);clear hK K;refine aG (b:=decide ((i:Int)<w.length)) rfl (fun hb=>?_) (fun hb=>?_)
 ·
  have hlt:i<w.length:=by simpa using hb
  have hgd:w.getD i 0=w[i]:=by simp[hlt]
  have hs:=pY hlt;refine aJ ?_;refine T0 (hK _ _ _ ?_);clear hK K;refine aB fun K hK=>?_;refine aN ?_;refine aB fun K hK=>Rg ?_;iterate 3 refine S0 ?_ (e:=fun _ h_=>by simp only[sH,↓sP,sA,tyS,simprocAttr,Int.natCast_nonneg,Int.ofNat_lt,hlt,hgd];exact AX h_)
  refine HS rfl rfl fun K' hK'=>?_;simp only[sH,↓sP,sA,tyS,simprocAttr,Int.natCast_nonneg,Int.ofNat_lt,hlt,hgd];refine C1 (tK w[i]) ?_;rintro u rfl;refine AX (hK' _ _ ?_);clear hK' K';refine T2 (hK _ _ _ ?_);clear hK K;refine aG (b:=cU w[i]) rfl (fun hb=>?_) (fun hb=>?_)
  ·
   refine Rg ?_;iterate 7 refine S0 ?_ (e:=fun _ h_=>by simp only[sH,↓sP,sA,tyS,simprocAttr,Int.natCast_nonneg,Int.ofNat_lt,hlt,hgd,List.length_append,List.length_map];exact AX h_)
   refine T2 (hK _ _ _ ?_);clear hK K;refine aK (by kernel_rfl) ?_;refine TQ (iH i) ?_;refine⟨⟨i+1,hlt⟩,aL (by omega) ?_ ?_,?_⟩
   · rw[hs,jJ,if_pos hb];simp[aY,upd_at,fin_at,HV.men]
   · rw[hs,jJ,if_pos hb,List.map_append];exact⟨rfl,by omega,trivial,trivial⟩
   show w.length-(i+1)<w.length-i;omega
  have h16:((w[i].toNat/16:Nat):Int)<16:=by have:=w[i].toNat_lt;omega
  have h15:((w[i].toNat%16:Nat):Int)<16:=by omega
  refine DW [(0,[],[]),(1,[],[]),(2,[],[]),(3,[],[]),(4,[],[]),(5,[],[]),(6,[],[]),(7,[],[]),(8,[],[]),(9,[],[]),(10,[],[]),(11,[],[]),(12,[],[]),(13,[],[]),(14,[],[]),(15,[],[])] [0,0,0,0,12,28,62,0,0,0,768,1792,3968,8190,16383,32767] ?_;iterate 16 refine W0 ?_ (e:=fun _ h_=>by simp only[sH,↓sP,sA,tyS,simprocAttr,Int.natCast_nonneg,Int.ofNat_lt,hlt,hgd,List.length_append,List.length_map,cO3,cH6,h16,h15];exact AX h_)
  refine T2 (hK _ _ _ ?_);clear hK K;refine aK (by kernel_rfl) ?_;refine TQ (iH i) ?_;refine⟨⟨i+1,hlt⟩,aL (by omega) ?_ ?_,?_⟩
  · rw[hs,jJ,if_neg (by rw[hb];simp)];simp[aY,upd_at,fin_at,HV.men]
  · rw[hs,jJ,if_neg (by rw[hb];simp),List.map_append];exact⟨rfl,by omega,trivial,trivial⟩
  show w.length-(i+1)<w.length-i;omega
 refine bI (T3 ?_);clear hK K;refine AX (hK _ _ _ ?_);clear hK K;refine dF [24] (bH (fr2:=fin [(4,.c (.slc ((dA (w.take i)).map dM)))]) (ob2:=fob []) (nx2:=200) (aL (by omega) (by simp[aY,eB,fin_at,finA_at,upd_at,fob_at,HV.close,HV.closeL,CV.denil,CV.denilL,dK,HV.men,HV.menL,HV.norm,HV.toC,HV.toCL]) (by simp[aZ,eC,fob_at,upd_at,none0_at,bV,HO.close,HV.close,HV.closeL,HO.men,HV.men,HV.menL,HV.norm,HV.toC,HV.toCL])) ?_);have F:=@bytesC_map;refine RF ?_;refine aE (RT Tryz.results67 ?_);have hei:i=w.length:=by simp at hb;omega
 subst hei;exact aH [] (.str (dA w)) (by rw[List.take_length];rfl) (by rw[iG,if_neg hne])
theorem bE4 (ls:List (List aF))(h0:ls.length<2^40)(h1: ∀l∈ls,l.length<2^40):gT Tryz.prog 37 [.slc (ls.map fun l=> .slc (l.map .str))] (fun u v=>u= .slc ((mG ls).map dM)∧v= .int .i64 (iB ls)):=by
 refine FW Tryz.func37 ?_;refine R0 ?_;refine aB fun K hK=>?_;refine R0 ?_;refine aG (b:=decide ((1000:Int)<ls.length)) rfl (fun hb=>?_) (fun hb=>?_)
 · refine R0 ?_;refine aE (RT Tryz.results37 ?_);have hE:=tC (ls:=ls) (by simp at hb;omega);refine aO [] (.slc []) (.int .i64 3) ?_ ⟨by rw[iV (by rw[hE];decide)];rfl,by rw[hE]⟩;simp[HV.close,HV.closeL,CV.denil,CV.denilL,HV.norm,HV.toC,HV.toCL]
 refine aJ ?_;refine T0 (hK _ _ _ ?_);clear hK K;have hn:ls.length≤1000:=by simp at hb;omega
 clear hb;refine R0 ?_;refine aB fun K hK=>?_;refine R0 ?_;refine aN ?_;refine kC 4 0 5 1 rfl rfl rfl rfl ?_;refine bS (α:={i:Nat//i≤ls.length∧ ∀x∈ls.take i,okL x=true}) (fun i=>(fin [(0,.c (.slc (ls.map fun l=> .slc (l.map .str)))),(4,.own 28 (fY (ls.take i.1)).length),(5,.c (.int .i64 i.1))],fob [(28,.row 5 1 ((fY (ls.take i.1)).map dM))])) 100 (fun i=>ls.length-i.1) ⟨0,by omega,by simp⟩ (fF) ?_;rintro⟨i,hi,hk⟩;refine aB fun K hK=>?_;refine aB fun K hK=>Rg ?_;iterate 4 refine S0 ?_
 refine T2 (hK _ _ _ ?_);clear hK K;refine aG (b:=decide ((i:Int)<ls.length)) rfl (fun hb=>?_) (fun hb=>?_)
 ·
  have hlt:i<ls.length:=by simpa using hb
  clear hb;have hl1:=h1 ls[i] (List.getElem_mem hlt);have hne: ∀l∈ls.take i,l≠[]:=fun l hl=>((kQ l).1 (hk l hl)).1;have hsd:=bB4 hk;rw[List.length_take]at hsd;have hdl:=rE hne;have hdt1:=zY hlt;obtain⟨l,hl⟩: ∃l,l=ls[i]:=⟨_,rfl⟩;have hln:nth (ls.map fun l=>CV.slc (l.map .str)) i= .slc (l.map .str):=by rw[bR hlt,hl]
  rw[←hl]at hdt1 hl1;have hlti:(i:Int)<ls.length:=by omega
  refine aJ ?_;refine T0 (hK _ _ _ ?_);clear hK K;refine aB fun K hK=>?_;refine aN ?_;refine aB fun K hK=>?_;refine aB fun K hK=>Rg ?_;have F:=aI @Int.natCast_nonneg (aI @Int.ofNat_lt (aI hlt hln));iterate 6 refine SF ?_
  refine T2 (hK _ _ _ ?_);clear hK K;refine aG (b:=(l.length:Int)==0) rfl (fun hb=>?_) (fun hb=>?_)
  ·
   refine R0 ?_;refine aE (RT Tryz.results37 ?_);have hc:mF l=1:=by rw[mF,if_pos (by simp at hb;simp[hb])]
   have hE:=rG hn hlt hk (by rw[←hl,okL,hc];rfl);rw[←hl,hc]at hE;refine aO [] (.slc []) (.int .i64 1) ?_ ⟨by rw[iV (by rw[hE];decide)];rfl,by rw[hE]⟩;simp[HV.close,HV.closeL,CV.denil,CV.denilL,HV.norm,HV.toC,HV.toCL]
  refine aJ ?_;refine T0 (hK _ _ _ ?_);clear hK K;refine aB fun K hK=>?_;have hn0:l.length≠0:=by simp at hb;simp[hb]
  clear hb;refine aB fun K hK=>Rg ?_;iterate 6 refine SF ?_
  refine T2 (hK _ _ _ ?_);clear hK K;refine aG (b:=decide ((120:Int)<l.length)) rfl (fun hb=>?_) (fun hb=>?_)
  ·
   refine R0 ?_;refine aE (RT Tryz.results37 ?_);have hc:mF l=3:=by rw[mF,if_neg hn0,if_pos (by simp at hb;omega)]
   have hE:=rG hn hlt hk (by rw[←hl,okL,hc];rfl);rw[←hl,hc]at hE;refine aO [] (.slc []) (.int .i64 3) ?_ ⟨by rw[iV (by rw[hE];decide)];rfl,by rw[hE]⟩;simp[HV.close,HV.closeL,CV.denil,CV.denilL,HV.norm,HV.toC,HV.toCL]
  refine aJ ?_;refine T0 (hK _ _ _ ?_);clear hK K;refine aB fun K hK=>?_;have hn1:l.length≤120:=by simp at hb;omega
  clear hb;refine R0 ?_;refine aN ?_;refine bS (α:={k:Nat//k≤l.length∧ ∀x∈l.take k,x.length≤32768}) (fun k=>(fin [(0,.c (.slc (ls.map fun l=> .slc (l.map .str)))),(4,.own 28 (fY (ls.take i)++gS (l.take k.1)).length),(5,.c (.int .i64 i)),(6,.c (.int .i64 k.1))],fob [(28,.row 5 1 ((fY (ls.take i)++gS (l.take k.1)).map dM))])) 200 (fun k=>l.length-k.1) ⟨0,by omega,by simp⟩ (fF) ?_;rintro⟨k,hk',hkw⟩;have hsw:=bP7 (l.take k) hkw;rw[List.length_take]at hsw;refine aB fun K hK=>?_;refine aB fun K hK=>Rg ?_;have F:=aI @Int.natCast_nonneg (aI hlti hln);iterate 7 refine SF ?_
  refine T2 (hK _ _ _ ?_);clear hK K;refine aG (b:=decide ((k:Int)<l.length)) rfl (fun hb=>?_) (fun hb=>?_)
  ·
   have hlk:k<l.length:=by simpa using hb
   clear hb;refine aJ ?_;refine T0 (hK _ _ _ ?_);clear hK K;refine aB fun K hK=>?_;refine aN ?_;refine aB fun K hK=>?_;refine aB fun K hK=>Rg ?_;have F:=aI @Int.natCast_nonneg (aI @Int.ofNat_lt (aI hlt (aI hln (aI hlk (nM hlk)))));iterate 9 refine SF ?_
   refine T2 (hK _ _ _ ?_);clear hK K;refine aG (b:=decide ((32768:Int)<l[k].length)) rfl (fun hb=>?_) (fun hb=>?_)
   ·
    refine R0 ?_;refine aE (RT Tryz.results37 ?_);have hc:mF l=3:=by rw[mF,if_neg hn0,if_neg (by omega),if_pos];simp only[List.any_eq_true,decide_eq_true_eq];exact⟨_,List.getElem_mem hlk,by simp at hb;omega⟩
    have hE:=rG hn hlt hk (by rw[←hl,okL,hc];rfl);rw[←hl,hc]at hE;refine aO [] (.slc []) (.int .i64 3) ?_ ⟨by rw[iV (by rw[hE];decide)];rfl,by rw[hE]⟩;simp[HV.close,HV.closeL,CV.denil,CV.denilL,HV.norm,HV.toC,HV.toCL]
   refine aJ ?_;refine T0 (hK _ _ _ ?_);clear hK K;refine aB fun K hK=>?_;have hw2:l[k].length≤32768:=by simp at hb;omega
   clear hb;have hel:=rD l[k];have hsz:=nP l[k];have hsp:=zW l[k];have hpe:0<(iG l[k]).length:=by omega
   have htk:=zX hlk;have hbe:(fY (ls.take i)).length+(gS (l.take k)).length+(iG l[k]).length≤140737488355328:=by omega
   have hbe1:(fY (ls.take i)).length+(gS (l.take k)).length+1+(iG l[k]).length≤140737488355328:=by omega
   refine R0 ?_;refine aG (b:=decide ((0:Int)<k)) rfl (fun hb=>?_) (fun hb=>?_)
   ·
    refine Rg ?_;have F:=aI @List.length_append.{0} @List.length_map.{0,0};iterate 4 refine SF ?_
    refine T2 (hK _ _ _ ?_);clear hK K;refine Rg ?_;iterate 8 refine S0 ?_ (e:=fun _ h_=>by simp only[sH,↓sP,sA,tyS,simprocAttr,Int.natCast_nonneg,Int.ofNat_lt,hlt,hln,hlk,bR hlk,List.length_append,List.length_map,hpe,hbe,hbe1];exact AX h_)
    refine HS rfl rfl fun K' hK'=>?_;simp only[sH,↓sP,sA,tyS,simprocAttr,Int.natCast_nonneg,Int.ofNat_lt,hlt,hln,hlk,bR hlk,List.length_append,List.length_map,hpe,hbe,hbe1];refine C1 (aS3 l[k] (by omega)) ?_;rintro u rfl;refine AX (hK' _ _ ?_);clear hK' K';iterate 2 refine S0 ?_ (e:=fun _ h_=>by simp only[sH,↓sP,sA,tyS,simprocAttr,Int.natCast_nonneg,Int.ofNat_lt,hlt,hln,hlk,bR hlk,List.length_append,List.length_map,hpe,hbe,hbe1];exact AX h_)
    refine T2 (hK _ _ _ ?_);clear hK K;refine aK (by kernel_rfl) ?_;refine TQ (iH k) ?_;have hk0:k≠0:=by simp at hb;omega
    refine⟨⟨k+1,hlk,tB (p:=fun x=>x.length≤32768) hlk hw2 hkw⟩,aL (by omega) ?_ ?_,?_⟩
    · rw[htk,if_neg hk0];simp[aY,upd_at,fin_at,HV.men];omega
    · rw[htk,if_neg hk0];simp only[List.map_append,←List.append_assoc];exact⟨rfl,by omega,trivial,trivial⟩
    show l.length-(k+1)<l.length-k;omega
   refine aJ ?_;refine T0 (hK _ _ _ ?_);clear hK K;refine Rg ?_;iterate 8 refine S0 ?_ (e:=fun _ h_=>by simp only[sH,↓sP,sA,tyS,simprocAttr,Int.natCast_nonneg,Int.ofNat_lt,hlt,hln,hlk,bR hlk,List.length_append,List.length_map,hpe,hbe,hbe1];exact AX h_)
   refine HS rfl rfl fun K' hK'=>?_;simp only[sH,↓sP,sA,tyS,simprocAttr,Int.natCast_nonneg,Int.ofNat_lt,hlt,hln,hlk,bR hlk,List.length_append,List.length_map,hpe,hbe,hbe1];refine C1 (aS3 l[k] (by omega)) ?_;rintro u rfl;refine AX (hK' _ _ ?_);clear hK' K';iterate 2 refine S0 ?_ (e:=fun _ h_=>by simp only[sH,↓sP,sA,tyS,simprocAttr,Int.natCast_nonneg,Int.ofNat_lt,hlt,hln,hlk,bR hlk,List.length_append,List.length_map,hpe,hbe,hbe1];exact AX h_)
   refine T2 (hK _ _ _ ?_);clear hK K;refine aK (by kernel_rfl) ?_;refine TQ (iH k) ?_;have hk0:k=0:=by simp at hb;omega
   refine⟨⟨k+1,hlk,tB (p:=fun x=>x.length≤32768) hlk hw2 hkw⟩,aL (by omega) ?_ ?_,?_⟩
   · rw[htk,if_pos hk0];simp[aY,upd_at,fin_at,HV.men];omega
   · rw[htk,if_pos hk0,List.nil_append];simp only[List.map_append,←List.append_assoc];exact⟨rfl,by omega,trivial,trivial⟩
   show l.length-(k+1)<l.length-k;omega
  have hek:k=l.length:=by simp at hb;omega
  subst hek;clear hb;rw[List.take_length]at*;have hokl:okL l=true:=(kQ l).2 ⟨fun h=>hn0 (by rw[h];rfl),hn1,hkw⟩;refine bI (T3 ?_);clear hK K;refine AX (hK _ _ _ ?_);clear hK K;refine Rg ?_;have F:=aI @List.length_append.{0} (aI @List.length_map.{0,0} @List.take_length.{0});iterate 4 refine SF ?_
  refine T2 (hK _ _ _ ?_);clear hK K;refine aK (by kernel_rfl) ?_;refine TQ (iH i) ?_;refine⟨⟨i+1,hlt,tB (p:=fun x=>okL x=true) hlt (by rw[←hl];exact hokl) hk⟩,aL (by omega) ?_ ?_,?_⟩
  · rw[hdt1,yR];simp[aY,upd_at,fin_at,HV.men];try omega
  · rw[hdt1,yR];simp only[List.map_append,←List.append_assoc,List.take_length];exact⟨rfl,by omega,trivial,trivial⟩
  show ls.length-(i+1)<ls.length-i;omega
 have hei:i=ls.length:=by simp at hb;omega
 subst hei;clear hb;rw[List.take_length]at hk;have hE:=vK hn hk;refine bI (T3 ?_);clear hK K;refine AX (hK _ _ _ ?_);clear hK K;refine aB fun K hK=>?_;have F:=aI @List.take_length.{0} @List.length_map.{0,0};refine RF ?_;refine aG (b:=decide ((262144:Int)<(fY ls).length)) rfl (fun hb=>?_) (fun hb=>?_)
 · refine R0 ?_;refine aE (RT Tryz.results37 ?_);rw[if_pos (by simp at hb;omega)]at hE;refine aO [] (.slc []) (.int .i64 3) ?_ ⟨by rw[iV (by rw[hE];decide)];rfl,by rw[hE]⟩;simp[HV.close,HV.closeL,CV.denil,CV.denilL,HV.norm,HV.toC,HV.toCL]
 refine aJ ?_;refine T0 (hK _ _ _ ?_);clear hK K;refine R0 ?_;refine aE (RT Tryz.results37 ?_);rw[if_neg (by simp at hb;omega)]at hE;refine aO [28] (.slc ((fY ls).map dM)) (.int .i64 0) ?_ ⟨by rw[vL hE],by rw[hE]⟩;simp[HV.close,fob_at,upd_at,HV.norm,HV.toC,HV.closeL,HV.toCL,List.take_of_length_le,CV.denil,dK]
theorem cF3 (b:aF)(hl:b.length<2^40):gT Tryz.prog 38 [.slc (b.map u8)] (fun u v=>u= .slc ((decO b).map lsC)∧v= .int .i64 (eL b)):=by
 refine FW Tryz.func38 ?_;refine R0 ?_;refine aB fun K hK=>?_;have F:=@List.length_map.{0,0};refine RF ?_;refine aG (b:=decide ((262144:Int)<b.length)) rfl (fun hb=>?_) (fun hb=>?_)
 ·
  refine R0 ?_;refine aE (RT Tryz.results38 ?_);have hE:eL b=3:=by unfold eL;rw[if_pos (by simp at hb;omega)]
  refine aO [] (.slc []) (.int .i64 3) ?_ ⟨by simp only[decO,hE];rfl,by rw[hE]⟩;simp[HV.close,HV.closeL,CV.denil,CV.denilL,HV.norm,HV.toC,HV.toCL]
 refine aJ ?_;refine T0 (hK _ _ _ ?_);clear hK K;refine aB fun K hK=>?_;have hle: ¬262144<b.length:=by simp at hb;omega
 clear hb;refine RF ?_;refine aG (b:=(b.length:Int)==0) rfl (fun hb=>?_) (fun hb=>?_)
 ·
  refine R0 ?_;refine aE (RT Tryz.results38 ?_);have hbe:b=[]:=by simpa using hb
  subst hbe;refine aO [] (.slc []) (.int .i64 0) ?_ ⟨rfl,rfl⟩;simp[HV.close,HV.closeL,CV.denil,CV.denilL,HV.norm,HV.toC,HV.toCL]
 refine aJ ?_;refine T0 (hK _ _ _ ?_);clear hK K;refine aB fun K hK=>?_;have hne:b≠[]:=by rintro rfl;simp at hb
 clear hb;have hpos:0<b.length:=List.length_pos_iff.2 hne;have hlt1:b.length-1<b.length:=by omega
 have hwl:IntKind.i64.wrap ((b.length:Int)-1)=((b.length-1:Nat):Int):=by rw[IntWalk.i64_in _ (by omega)];omega
 refine aB fun K hK=>Rg ?_;have F:=aI @List.length_map.{0,0} (aI hwl (aI @Int.natCast_nonneg (aI @Int.ofNat_lt (aI hlt1 (aI (nM hlt1) @u8.eq_1)))));iterate 7 refine SF ?_
 refine T2 (hK _ _ _ ?_);clear hK K;refine aG (b:=((b[b.length-1]).toNat:Int) !=10) rfl (fun hb=>?_) (fun hb=>?_)
 ·
  refine R0 ?_;refine aE (RT Tryz.results38 ?_);have hE:eL b=2:=bJ1 hle hne (by
   intro h;rw[List.getD_eq_getElem?_getD,List.getElem?_eq_getElem hlt1]at h;simp only[Option.getD_some]at h;rw[h]at hb;simp at hb)
  refine aO [] (.slc []) (.int .i64 2) ?_ ⟨by simp only[decO,hE];rfl,by rw[hE]⟩;simp[HV.close,HV.closeL,CV.denil,CV.denilL,HV.norm,HV.toC,HV.toCL]
 refine aJ ?_;refine T0 (hK _ _ _ ?_);clear hK K;have hl10:b[b.length-1]=10:=by
  simp only[bne_eq_false_iff_eq]at hb;exact UInt8.toNat_inj.1 (by show b[b.length-1].toNat=10;omega)
 clear hb;obtain⟨m,hm⟩: ∃m,b=m++[10]:=⟨b.dropLast,by rw[←hl10,←List.getLast_eq_getElem hne];exact(List.dropLast_concat_getLast hne).symm⟩;have htk:List.take (b.length-1) (b.map u8)=m.map u8:=by rw[hm];simp
 have hbc:jB (m.map u8)=some m:=bytesC_map m;have hml:m.length+1=b.length:=by rw[hm];simp
 have hml3:(m++[(10:UInt8)]).length=m.length+1:=by simp
 rw[hm]at hle;refine aB fun K hK=>Rg ?_;have F:=aI @List.length_map.{0,0} (aI hwl (aI @Int.natCast_nonneg (aI @Int.ofNat_le (aI @Nat.sub_le (aI @lL (aI @List.drop_zero.{0} (aI @Nat.sub_zero (aI htk hbc))))))));iterate 6 refine SF ?_
 refine HS rfl rfl fun K' hK'=>T6 ?_;refine C2 (aP2 m 10 (by omega)) ?_;rintro u rfl;refine AX (hK' _ _ ?_);clear hK' K';refine SF ?_;refine T2 (hK _ _ _ ?_);clear hK K;obtain⟨rows,hrows⟩: ∃rows,rows=aS 10 m:=⟨_,rfl⟩;have hrl:=eX 10 m;have hrs:=mH 10 m;rw[←hrows]at hrl hrs⊢;have hE2:rows.mapM unL=none→eL b=2:=fun h=>by rw[hm];exact bJ2 hle (by rw[←hrows];exact h)
 refine R0 ?_;refine aB fun K hK=>?_;refine R0 ?_;refine aN ?_;refine kC 5 0 60 1 rfl rfl rfl rfl ?_;refine bS (α:={i:Nat//i≤rows.length∧ ∀r∈rows.take i,(unL r).isSome=true}) (fun i=>(fin [(4,.c (.slc (rows.map .str))),(5,.own 100 i.1),(6,.c (.int .i64 i.1))],fob [(100,.row 60 1 ((lsT rows i.1).map lsC))])) 200 (fun i=>rows.length-i.1) ⟨0,by omega,by simp⟩ (by simp only[lsT,List.take_zero,List.map_nil];exact fF) ?_;rintro⟨i,hi,hok⟩;simp only;have hlsl:=aX2 hi;refine aB fun K hK=>?_;refine aB fun K hK=>Rg ?_;have F:=@List.length_map.{0,0};iterate 4 refine SF ?_
 refine T2 (hK _ _ _ ?_);clear hK K;refine aG (b:=decide ((i:Int)<rows.length)) rfl (fun hb=>?_) (fun hb=>?_)
 ·
  have hlt:i<rows.length:=by simpa using hb
  clear hb;obtain⟨r,hr⟩: ∃r,r=rows[i]:=⟨_,rfl⟩;have hrin:r∈rows:=by rw[hr];exact List.getElem_mem hlt
  have hrn:=hrs r hrin;have hnr:nth (rows.map CV.str) i= .str r:=by rw[bR hlt,hr]
  refine aJ ?_;refine T0 (hK _ _ _ ?_);clear hK K;refine aB fun K hK=>?_;refine aN ?_;refine aB fun K hK=>Rg ?_;have F:=aI @Int.natCast_nonneg (aI @Int.ofNat_lt (aI hlt (aI hnr @List.length_map.{0,0})));iterate 4 refine SF ?_
  refine HS rfl rfl fun K' hK'=>T6 ?_;refine C2 (aP2 r 32 (by omega)) ?_;rintro u rfl;refine AX (hK' _ _ ?_);clear hK' K';refine SF ?_;refine T2 (hK _ _ _ ?_);clear hK K;refine R0 ?_;refine aB fun K hK=>?_;refine R0 ?_;refine aN ?_;refine kC 8 0 9 1 rfl rfl rfl rfl ?_;refine bS (α:={k:Nat//k≤(aS 32 r).length∧aN0 r k}) (fun k=>(fin [(4,.c (.slc (rows.map .str))),(5,.own 100 i),(6,.c (.int .i64 i)),(7,.c (.slc ((aS 32 r).map .str))),(8,.own 248 k.1),(9,.c (.int .i64 k.1))],fob [(100,.row 60 1 ((lsT rows i).map lsC)),(248,.row 9 1 ((wsT r k.1).map .str))])) 300 (fun k=>(aS 32 r).length-k.1) ⟨0,by omega,fun p hp=>by simp at hp⟩ (by simp only[wsT,List.take_zero,List.map_nil];exact fF) ?_;rintro⟨k,hk,hwo⟩;simp only;have hwl2:=qA hk;have hsl:=eX 32 r;refine aB fun K hK=>?_;refine aB fun K hK=>Rg ?_;have F:=@List.length_map.{0,0};iterate 4 refine SF ?_
  refine T2 (hK _ _ _ ?_);clear hK K;refine aG (b:=decide ((k:Int)<(aS 32 r).length)) rfl (fun hb=>?_) (fun hb=>?_)
  ·
   have hkl:k<(aS 32 r).length:=by simpa using hb
   clear hb;obtain⟨p,hp⟩: ∃p,p=(aS 32 r)[k]:=⟨_,rfl⟩;have hpl:=mH 32 r p (by rw[hp];exact List.getElem_mem hkl);have hnp:nth ((aS 32 r).map CV.str) k= .str p:=by rw[bR hkl,hp]
   refine aJ ?_;refine T0 (hK _ _ _ ?_);clear hK K;refine aB fun K hK=>?_;refine aN ?_;refine aB fun K hK=>Rg ?_;have F:=aI @Int.natCast_nonneg (aI @Int.ofNat_lt (aI hkl (aI hnp @List.length_map.{0,0})));iterate 4 refine SF ?_
   refine HS rfl rfl fun K' hK'=>T6 ?_;refine D1 (cF2 p (by omega)) ?_;rintro u v ⟨rfl,rfl⟩;refine AX (hK' _ _ ?_);clear hK' K';iterate 5 refine SF ?_
   refine T2 (hK _ _ _ ?_);clear hK K;refine aB fun K hK=>?_;refine R0 ?_;refine aG (b:=!(unW p).isSome) rfl (fun hb=>?_) (fun hb=>?_)
   · refine R0 ?_;refine aE (RT Tryz.results38 ?_);have hE:=hE2 (oW hrin (bS3 hkl (by rw[←hp];simpa using hb)));refine aO [] (.slc []) (.int .i64 2) ?_ ⟨by simp only[decO,hE];rfl,by rw[hE]⟩;simp[HV.close,HV.closeL,CV.denil,CV.denilL,HV.norm,HV.toC,HV.toCL]
   refine aJ ?_;refine T0 (hK _ _ _ ?_);clear hK K;refine Rg ?_;have F:=aI @List.length_append.{0} (aI @List.length_map.{0,0} hwl2);iterate 5 refine SF ?_
   refine T2 (hK _ _ _ ?_);clear hK K;refine aK (by kernel_rfl) ?_;refine TQ (iH k) ?_;refine⟨⟨k+1,hkl,zZ hkl hwo (by rw[←hp];simpa using hb)⟩,aL (by omega) ?_ ?_,?_⟩
   · simp[aY,upd_at,fin_at,HV.men]
   · simp only[aN1 hkl,←hp,aZ,List.map_append];exact⟨rfl,by omega,trivial,rfl,by omega,trivial,trivial⟩
   show(aS 32 r).length-(k+1)<(aS 32 r).length-k;omega
  refine bI (T3 ?_);clear hK K;refine AX (hK _ _ _ ?_);clear hK K;have hke:k=(aS 32 r).length:=by simp at hb;omega
  subst hke;have hul:=cC7 hwo;obtain⟨ws,hws⟩: ∃ws,ws=wsT r (aS 32 r).length:=⟨_,rfl⟩;rw[←hws]at hul hwl2⊢;rw[←hwl2];refine dF [248] (bH (fr2:=fin [(4,.c (.slc (rows.map .str))),(5,.own 100 i),(6,.c (.int .i64 i)),(8,.c (.slc (ws.map .str)))]) (ob2:=fob [(100,.row 60 1 ((lsT rows i).map lsC))]) (nx2:=400) (aL (by omega) (by simp[aY,eB,fin_at,finA_at,upd_at,fob_at,HV.close,HV.closeL,CV.denil,CV.denilL,denilL_str,HV.men,HV.menL,HV.norm,HV.toC,HV.toCL]) (by simp[aZ,eC,fob_at,upd_at,none0_at,bV,HO.close,HV.close,HV.closeL,HO.men,HV.men,HV.menL,HV.norm,HV.toC,HV.toCL])) ?_);refine Rg ?_;have F:=aI @List.length_append.{0} (aI @List.length_map.{0,0} hlsl);iterate 5 refine SF ?_
  refine T2 (hK _ _ _ ?_);clear hK K;refine aK (by kernel_rfl) ?_;refine TQ (iH i) ?_;have hok1: ∀x∈rows.take (i+1),(unL x).isSome=true:=by
   intro x hx;rw[List.take_succ_eq_append_getElem hlt,List.mem_append,List.mem_singleton]at hx;rcases hx with hx|rfl
   · exact hok x hx
   rw[←hr,hul];rfl
  refine⟨⟨i+1,hlt,hok1⟩,aL (by omega) ?_ ?_,?_⟩
  · simp[aY,upd_at,fin_at,HV.men]
  · simp only[bS2 hlt,←hr,hul,aZ,List.map_append,Option.getD_some];exact⟨rfl,by omega,trivial,trivial⟩
  show rows.length-(i+1)<rows.length-i;omega
 refine bI (T3 ?_);clear hK K;refine AX (hK _ _ _ ?_);clear hK K;refine aB fun K hK=>?_;have hie:i=rows.length:=by simp at hb;omega
 subst hie;have hml2:=cC8 hok;have hlens:=bS4 (rows:=rows) (n:=2^39) (fun r hr=>by have:=hrs r hr;omega);obtain⟨ls,hls⟩: ∃ls,ls=lsT rows rows.length:=⟨_,rfl⟩;rw[←hls]at hml2 hlsl hlens⊢;rw[hrows]at hml2;obtain⟨hE0,hEn⟩:=bS1 hle hml2;rw[←hm]at hE0 hEn;rw[←hlsl];refine dF [100] (bH (fr2:=fin [(5,.c (.slc (ls.map lsC)))]) (ob2:=fob []) (nx2:=300) (aL (by omega) (by simp[aY,eB,fin_at,finA_at,upd_at,fob_at,HV.close,HV.closeL,CV.denil,CV.denilL,aT,HV.men,HV.menL,HV.norm,HV.toC,HV.toCL]) (by simp[aZ,eC,fob_at,upd_at,none0_at,bV,HO.close,HV.close,HV.closeL,HO.men,HV.men,HV.menL,HV.norm,HV.toC,HV.toCL])) ?_);refine aB fun K hK=>Rg ?_;have F:=@aT;refine SF ?_;refine HS rfl rfl fun K' hK'=>T6 ?_;refine D1 (bE4 ls (by omega) (fun l hl=>by have:=hlens l hl;omega)) ?_;rintro u v ⟨rfl,rfl⟩;refine AX (hK' _ _ ?_);clear hK' K';iterate 5 refine SF ?_
 refine T2 (hK _ _ _ ?_);clear hK K;refine R0 ?_;refine aG (b:=iB ls !=0) rfl (fun hb=>?_) (fun hb=>?_)
 · refine R0 ?_;refine aE (RT Tryz.results38 ?_);have hE:=hEn (by simpa using hb);refine aO [] (.slc []) (.int .i64 2) ?_ ⟨by simp only[decO,hE];rfl,by rw[hE]⟩;simp[HV.close,HV.closeL,CV.denil,CV.denilL,HV.norm,HV.toC,HV.toCL]
 refine aJ ?_;refine T0 (hK _ _ _ ?_);clear hK K;refine R0 ?_;refine aE (RT Tryz.results38 ?_);obtain⟨hE,hO⟩:=hE0 (by simpa using hb);refine aO [] (.slc (ls.map lsC)) (.int .i64 0) ?_ ⟨by rw[hO],by rw[hE]⟩;simp[HV.close,HV.closeL,CV.denil,CV.denilL,HV.norm,HV.toC,HV.toCL,aT]
end Go.Proofs.YtlldglbooaefhaaGreatDoor
namespace Go.Pl
open Go Go.Hl
def nvN (w:List aF):Int:=if 2≤w.length∧wd w 0≠bJ then(bL (wd w 1)).getD (-1)else 0
def nvM (w:List aF):Int:=if 3≤w.length then(bL (wd w 2)).getD (-1)else 0
def oG (w:List aF)(n:Nd)(b:Bool):Prop:=b=(dB w).isSome∧ ∀m,dB w=some m→n=m
variable {n:Nd}{w:List aF}
theorem pE (h:dB w=none):oG w n false:=⟨by rw[h];rfl,fun m hm=>by rw[h]at hm;cases hm⟩
theorem aD2 (h:dB w=some n):oG w n true:=⟨by rw[h];rfl,fun m hm=>by rw[h]at hm;cases hm;rfl⟩
theorem iQ {w:List aF}{k:Nat}(h1:w.length=k→dB w=some n)(h2:w.length≠k→dB w=none):oG w n ((w.length:Int)==(k:Int)):=by
 by_cases h:w.length=k
 · rw[show((w.length:Int)==(k:Int))=true by simp[h]];exact aD2 (h1 h)
 · rw[show((w.length:Int)==(k:Int))=false by simp;omega];exact pE (h2 h)
theorem bL3 (h:nvN w<0∨nvM w<0):dB w=none:=by
 rcases h with h|h
 ·
  unfold nvN at h;split at h
  ·
   rename_i hc;have hn:bL (wd w 1)=none:=by
    cases e:bL (wd w 1)with
    |none=>rfl
    |some n=>rw[e]at h;have:=(kF e).1;simp at h;omega
   have h1:w.length≠1:=by omega
   simp[dB,dD,dZ,hn,h1,hc.2]
  · omega
 ·
  unfold nvM at h;split at h
  ·
   rename_i hc;have hn:bL (wd w 2)=none:=by
    cases e:bL (wd w 2)with
    |none=>rfl
    |some n=>rw[e]at h;have:=(kF e).1;simp at h;omega
   have h1:w.length≠1:=by omega
   have h2:w.length≠2:=by omega
   cases h3:bL (wd w 1)<;>simp[dB,dD,dZ,hn,h1,h2,h3]
  · omega
theorem tT (hl:w.length=2)(h:wd w 0≠bJ)(h0:0≤nvN w):bL (wd w 1)=some (nvN w):=by
 have e:nvN w=(bL (wd w 1)).getD (-1):=by rw[nvN,if_pos ⟨by omega,h⟩]
 cases h1:bL (wd w 1)with
 |none=>rw[e,h1]at h0;simp at h0
 |some n=>rw[e,h1];rfl
theorem bX3 (hl:w.length=3)(h:wd w 0≠bJ)(h0:0≤nvN w):bL (wd w 1)=some (nvN w):=by
 have e:nvN w=(bL (wd w 1)).getD (-1):=by rw[nvN,if_pos ⟨by omega,h⟩]
 cases h1:bL (wd w 1)with
 |none=>rw[e,h1]at h0;simp at h0
 |some n=>rw[e,h1];rfl
theorem bX4 (hl:w.length=3)(h0:0≤nvM w):bL (wd w 2)=some (nvM w):=by
 have e:nvM w=(bL (wd w 2)).getD (-1):=by rw[nvM,if_pos (by omega)]
 cases h1:bL (wd w 2)with
 |none=>rw[e,h1]at h0;simp at h0
 |some n=>rw[e,h1];rfl
theorem cL2 {w:List aF}(h:wd w 0=eZ):oG w ⟨2,0,0,rq0⟩ ((w.length:Int)==((1:Nat):Int)):=iQ (fun hl=>by simp[dB,dD,dZ,h,hl,bM,bJ,bO,bT,cC,cO,cR,cA,eZ,fA,bQ]) (fun hl=>by simp[dB,dD,dZ,h,hl,bM,bJ,bO,bT,cC,cO,cR,cA,eZ,fA,bQ])
theorem cL3 {w:List aF}(h:wd w 0=fA):oG w ⟨3,0,0,rq0⟩ ((w.length:Int)==((1:Nat):Int)):=iQ (fun hl=>by simp[dB,dD,dZ,h,hl,bM,bJ,bO,bT,cC,cO,cR,cA,eZ,fA,bQ]) (fun hl=>by simp[dB,dD,dZ,h,hl,bM,bJ,bO,bT,cC,cO,cR,cA,eZ,fA,bQ])
theorem aY8 {w:List aF}(h:wd w 0=cA):oG w ⟨1,0,0,⟨8,0,0,[]⟩⟩ ((w.length:Int)==((1:Nat):Int)):=iQ (fun hl=>by simp[dB,dD,dZ,h,hl,bM,bJ,bO,bT,cC,cO,cR,cA,eZ,fA,bQ]) (fun hl=>by simp[dB,dD,dZ,h,hl,bM,bJ,bO,bT,cC,cO,cR,cA,eZ,fA,bQ])
theorem aY9 (h:wd w 0=bJ)(hl:w.length=2):oG w ⟨1,0,0,⟨2,0,0,wd w 1⟩⟩ true:=aD2 (by simp[dB,dD,dZ,h,hl,bM,bJ,bO,bT,cC,cO,cR,cA,eZ,fA,bQ])
theorem yY (n:Nd)(h:wd w 0=bJ)(hl:w.length≠2):oG w n false:=pE (by simp[dB,dD,dZ,h,hl,bM,bJ,bO,bT,cC,cO,cR,cA,eZ,fA,bQ])
theorem aZ0 {w:List aF}(h:wd w 0=bQ)(h0:0≤nvN w):oG w ⟨4,nvN w,0,rq0⟩ ((w.length:Int)==((2:Nat):Int)):=iQ (fun hl=>by have h1:=tT hl (by rw[h];decide) h0;simp[dB,dD,dZ,h,hl,h1,bM,bJ,bO,bT,cC,cO,cR,cA,eZ,fA,bQ]) (fun hl=>by simp[dB,dD,dZ,h,hl,bM,bJ,bO,bT,cC,cO,cR,cA,eZ,fA,bQ])
theorem aS4 {w:List aF}(h:wd w 0=bM)(h0:0≤nvN w):oG w ⟨1,0,0,⟨1,nvN w,0,[]⟩⟩ ((w.length:Int)==((2:Nat):Int)):=iQ (fun hl=>by have h1:=tT hl (by rw[h];decide) h0;simp[dB,dD,dZ,h,hl,h1,bM,bJ,bO,bT,cC,cO,cR,cA,eZ,fA,bQ]) (fun hl=>by simp[dB,dD,dZ,h,hl,bM,bJ,bO,bT,cC,cO,cR,cA,eZ,fA,bQ])
theorem aS5 {w:List aF}(h:wd w 0=bO)(h0:0≤nvN w):oG w ⟨1,0,0,⟨3,nvN w,0,[]⟩⟩ ((w.length:Int)==((2:Nat):Int)):=iQ (fun hl=>by have h1:=tT hl (by rw[h];decide) h0;simp[dB,dD,dZ,h,hl,h1,bM,bJ,bO,bT,cC,cO,cR,cA,eZ,fA,bQ]) (fun hl=>by simp[dB,dD,dZ,h,hl,bM,bJ,bO,bT,cC,cO,cR,cA,eZ,fA,bQ])
theorem bL4 {w:List aF}(h:wd w 0=cC)(h0:0≤nvN w):oG w ⟨1,0,0,⟨5,nvN w,0,[]⟩⟩ ((w.length:Int)==((2:Nat):Int)):=iQ (fun hl=>by have h1:=tT hl (by rw[h];decide) h0;simp[dB,dD,dZ,h,hl,h1,bM,bJ,bO,bT,cC,cO,cR,cA,eZ,fA,bQ]) (fun hl=>by simp[dB,dD,dZ,h,hl,bM,bJ,bO,bT,cC,cO,cR,cA,eZ,fA,bQ])
theorem bX5 {w:List aF}(h:wd w 0=cO)(h0:0≤nvN w):oG w ⟨1,0,0,⟨6,nvN w,0,[]⟩⟩ ((w.length:Int)==((2:Nat):Int)):=iQ (fun hl=>by have h1:=tT hl (by rw[h];decide) h0;simp[dB,dD,dZ,h,hl,h1,bM,bJ,bO,bT,cC,cO,cR,cA,eZ,fA,bQ]) (fun hl=>by simp[dB,dD,dZ,h,hl,bM,bJ,bO,bT,cC,cO,cR,cA,eZ,fA,bQ])
theorem bX6 {w:List aF}(h:wd w 0=cR)(h0:0≤nvN w):oG w ⟨1,0,0,⟨7,nvN w,0,[]⟩⟩ ((w.length:Int)==((2:Nat):Int)):=iQ (fun hl=>by have h1:=tT hl (by rw[h];decide) h0;simp[dB,dD,dZ,h,hl,h1,bM,bJ,bO,bT,cC,cO,cR,cA,eZ,fA,bQ]) (fun hl=>by simp[dB,dD,dZ,h,hl,bM,bJ,bO,bT,cC,cO,cR,cA,eZ,fA,bQ])
theorem aZ1 {w:List aF}(h:wd w 0=bT)(h0:0≤nvN w)(h1:0≤nvM w):oG w ⟨1,0,0,⟨4,nvN w,nvM w,[]⟩⟩ ((w.length:Int)==((3:Nat):Int)):=iQ (fun hl=>by have h2:=bX3 hl (by rw[h];decide) h0;have h3:=bX4 hl h1;simp[dB,dD,dZ,h,hl,h2,h3,bM,bJ,bO,bT,cC,cO,cR,cA,eZ,fA,bQ]) (fun hl=>by simp[dB,dD,dZ,h,hl,bM,bJ,bO,bT,cC,cO,cR,cA,eZ,fA,bQ])
theorem bX7 (n:Nd)(h1:wd w 0≠eZ)(h2:wd w 0≠fA)(h3:wd w 0≠bQ)(h4:wd w 0≠cA)(h5:wd w 0≠bJ)(h6:wd w 0≠bT)(h7:wd w 0≠bM)(h8:wd w 0≠bO)(h9:wd w 0≠cC)(ha:wd w 0≠cO)(hb:wd w 0≠cR):oG w n false:=pE (by simp[dB,dD,dZ, *])
end Go.Pl
namespace Go.Proofs.YtlldglbooaefhaaGreatDoor
open Go Go.Hl Go.Pl
set_option maxRecDepth 10000
set_option maxHeartbeats 16000000
theorem pF (s:aF):cG Tryz.prog 91 [.str s] (fun v=>v= .int .i64 ((bL s).getD (-1))):=by
 refine FW Tryz.func91 ?_;refine R0 ?_;refine aB fun K hK=>Rg ?_;refine S0 ?_;refine HS rfl rfl fun K' hK'=>T5 ?_;refine D1 (bX2 s) ?_;rintro u v ⟨rfl,rfl⟩;refine AX (hK' _ _ ?_);clear hK' K';iterate 5 refine S0 ?_
 refine T2 (hK _ _ _ ?_);clear hK K;refine aB fun K hK=>?_;refine R0 ?_;refine aG (b:=!(bL s).isSome) rfl (fun hb=>?_) (fun hb=>?_)
 ·
  refine R0 ?_;refine aE (RT Tryz.results91 ?_);have hn:bL s=none:=by simpa using hb
  exact aH [] (.int .i64 (-1)) rfl (by rw[hn];rfl)
 refine aJ ?_;refine T0 (hK _ _ _ ?_);clear hK K;refine R0 ?_;refine aE (RT Tryz.results91 ?_);obtain⟨n,hn⟩: ∃n,bL s=some n:=by
  cases h:bL s with
  |none=>rw[h]at hb;simp at hb
  |some n=>exact⟨n,rfl⟩
 exact aH [] (.int .i64 n) (by rw[hn];rfl) (by rw[hn];rfl)
theorem bX8 (s b:Nat)(d:TyD)(e:Operand→HV)(K:HV→Prop):gQ ⟨s,b,d,Nd.cv ⟨0,0,0,⟨0,0,0,[]⟩⟩⟩ [] e K=K (.c nd0.cv):=rfl
def NdR (w:List aF)(u v:CV):Prop:= ∃(n:Nd) (b:Bool),u=n.cv∧v= .bool b∧oG w n b
theorem bL5 (w:List aF)(h0:0<w.length):gT Tryz.prog 92 [lsC w] (NdR w):=by
 unfold lsC;have hw0:nth (w.map CV.str) 0= .str (wd w 0):=cF h0;refine FW Tryz.func92 ?_;refine R0 ?_;refine R0 ?_;refine aB fun K hK=>?_;have key: ∀(N:Int) fr ob nx,N=nvN w→Fits 0 fr ob (fin [(0,.c (.slc (w.map .str))),(2,.ptr 0 0),(4,.c (.int .i64 N)),(5,.c (.int .i64 0))]) (fob [(0,.box 40 (.c nd0.cv))]) 200→K fr ob nx:=by
  rintro N fr ob nx rfl hf;refine hK _ _ _ (bH hf ?_);clear hf hK K;refine aB fun K hK=>?_;have key2: ∀(M:Int) fr ob nx,M=nvM w→Fits 0 fr ob (fin [(0,.c (.slc (w.map .str))),(2,.ptr 0 0),(4,.c (.int .i64 (nvN w))),(5,.c (.int .i64 M))]) (fob [(0,.box 40 (.c nd0.cv))]) 300→K fr ob nx:=by
   rintro M fr ob nx rfl hf;refine hK _ _ _ (bH hf ?_);clear hf hK K;refine aB fun K hK=>?_;refine aB fun K hK=>?_;have key: ∀(b:Bool) fr ob nx,b=(decide (nvN w<0)||decide (nvM w<0))→Fits 0 fr ob (fin [(0,.c (.slc (w.map .str))),(2,.ptr 0 0),(4,.c (.int .i64 (nvN w))),(5,.c (.int .i64 (nvM w))),(31,.c (.bool b))]) (fob [(0,.box 40 (.c nd0.cv))]) 400→K fr ob nx:=by
    rintro b fr ob nx rfl hf;refine hK _ _ _ (bH hf ?_);clear hf hK K;refine aG (b:=decide (nvN w<0)||decide (nvM w<0)) rfl (fun hb=>?_) (fun hb=>?_)
    · have F:=@bX8;refine RF ?_;refine aE (RT Tryz.results92 ?_);exact aO [] nd0.cv (.bool false) (by simp[HV.close,HV.closeL,nd0,Nd.cv,rq0,Rq.cv,CV.denil,CV.denilL,HV.norm,HV.toC,HV.toCL]) ⟨nd0,false,rfl,rfl,pE (bL3 (by simpa using hb))⟩
    refine aJ ?_;refine T0 (hK _ _ _ ?_);clear hK K;refine aB fun K hK=>?_;obtain⟨hN,hM⟩:0≤nvN w∧0≤nvM w:=by
     simp only[Bool.or_eq_false_iff,decide_eq_false_iff_not]at hb;omega
    clear hb;refine R0 ?_ (e:=fun _ h_=>by simp only[↓sP,sA,tyS,simprocAttr,Int.natCast_nonneg,Int.ofNat_lt,h0,hw0,Int.natCast_pos,Int.le_refl,Int.toNat_zero];exact AX h_);refine aN ?_;refine R0 ?_;refine aG (b:=wd w 0==[97,108,108]) rfl (fun hb=>?_) (fun hb=>?_)
    ·
     have hw:wd w 0=eZ:=by simpa[eZ]using hb
     clear hb;refine aB fun K hK=>Rg ?_;iterate 6 refine S0 ?_
     refine T2 (hK _ _ _ ?_);clear hK K;refine aE (RT Tryz.results92 ?_);exact aO [] (Nd.cv ⟨2,0,0,rq0⟩) (.bool ((w.length:Int)==1)) (by simp[HV.close,HV.closeL,Nd.cv,rq0,Rq.cv,CV.denil,CV.denilL,HV.norm,HV.toC,HV.toCL]) ⟨_,_,rfl,rfl,cL2 hw⟩
    have nt36:wd w 0≠eZ:=by simpa[eZ]using hb
    clear hb;refine R0 ?_;refine aG (b:=wd w 0==[97,110,121]) rfl (fun hb=>?_) (fun hb=>?_)
    ·
     have hw:wd w 0=fA:=by simpa[fA]using hb
     clear hb;refine aB fun K hK=>Rg ?_;iterate 6 refine S0 ?_
     refine T2 (hK _ _ _ ?_);clear hK K;refine aE (RT Tryz.results92 ?_);exact aO [] (Nd.cv ⟨3,0,0,rq0⟩) (.bool ((w.length:Int)==1)) (by simp[HV.close,HV.closeL,Nd.cv,rq0,Rq.cv,CV.denil,CV.denilL,HV.norm,HV.toC,HV.toCL]) ⟨_,_,rfl,rfl,cL3 hw⟩
    have nt42:wd w 0≠fA:=by simpa[fA]using hb
    clear hb;refine R0 ?_;refine aG (b:=wd w 0==[97,116,108,101,97,115,116]) rfl (fun hb=>?_) (fun hb=>?_)
    ·
     have hw:wd w 0=bQ:=by simpa[bQ]using hb
     clear hb;refine aB fun K hK=>Rg ?_;iterate 7 refine S0 ?_
     refine T2 (hK _ _ _ ?_);clear hK K;refine aE (RT Tryz.results92 ?_);exact aO [] (Nd.cv ⟨4,nvN w,0,rq0⟩) (.bool ((w.length:Int)==2)) (by simp[HV.close,HV.closeL,Nd.cv,rq0,Rq.cv,CV.denil,CV.denilL,HV.norm,HV.toC,HV.toCL]) ⟨_,_,rfl,rfl,aZ0 hw hN⟩
    have nt48:wd w 0≠bQ:=by simpa[bQ]using hb
    clear hb;refine R0 ?_;refine aG (b:=wd w 0==[115,101,116,116,108,101,100]) rfl (fun hb=>?_) (fun hb=>?_)
    ·
     have hw:wd w 0=cA:=by simpa[cA]using hb
     clear hb;refine aB fun K hK=>Rg ?_;iterate 7 refine S0 ?_
     refine T2 (hK _ _ _ ?_);clear hK K;refine aE (RT Tryz.results92 ?_);exact aO [] (Nd.cv ⟨1,0,0,⟨8,0,0,[]⟩⟩) (.bool ((w.length:Int)==1)) (by simp[HV.close,HV.closeL,Nd.cv,rq0,Rq.cv,CV.denil,CV.denilL,HV.norm,HV.toC,HV.toCL]) ⟨_,_,rfl,rfl,aY8 hw⟩
    have nt55:wd w 0≠cA:=by simpa[cA]using hb
    clear hb;refine R0 ?_;refine aG (b:=wd w 0==[99,104,97,105,110,101,100]) rfl (fun hb=>?_) (fun hb=>?_)
    ·
     have hw:wd w 0=bJ:=by simpa[bJ]using hb
     clear hb;refine aB fun K hK=>?_;refine R0 ?_;refine aG (b:=!((w.length:Int)==2)) rfl (fun hb=>?_) (fun hb=>?_)
     · have F:=@bX8;refine RF ?_;refine aE (RT Tryz.results92 ?_);exact aO [] nd0.cv (.bool false) (by simp[HV.close,HV.closeL,Nd.cv,nd0,rq0,Rq.cv,CV.denil,CV.denilL,HV.norm,HV.toC,HV.toCL]) ⟨nd0,false,rfl,rfl,yY _ hw (by simp at hb;omega)⟩
     refine aJ ?_;refine T0 (hK _ _ _ ?_);clear hK K;have hl2:w.length=2:=by simp at hb;omega
     have h1:1<w.length:=by omega
     clear hb;refine aB fun K hK=>Rg ?_;iterate 7 refine S0 ?_ (e:=fun _ h_=>by simp only[sH,↓sP,sA,tyS,simprocAttr,Int.natCast_nonneg,Int.ofNat_lt,Int.one_nonneg,h1,cF h1];exact AX h_)
     refine T2 (hK _ _ _ ?_);clear hK K;refine aE (RT Tryz.results92 ?_);exact aO [] (Nd.cv ⟨1,0,0,⟨2,0,0,wd w 1⟩⟩) (.bool true) (by simp[HV.close,HV.closeL,Nd.cv,rq0,Rq.cv,CV.denil,CV.denilL,HV.norm,HV.toC,HV.toCL]) ⟨_,_,rfl,rfl,aY9 hw hl2⟩
    have nt62:wd w 0≠bJ:=by simpa[bJ]using hb
    clear hb;refine R0 ?_;refine aG (b:=wd w 0==[114,101,98,117,105,108,116]) rfl (fun hb=>?_) (fun hb=>?_)
    ·
     have hw:wd w 0=bT:=by simpa[bT]using hb
     clear hb;refine aB fun K hK=>Rg ?_;iterate 9 refine S0 ?_
     refine T2 (hK _ _ _ ?_);clear hK K;refine aE (RT Tryz.results92 ?_);exact aO [] (Nd.cv ⟨1,0,0,⟨4,nvN w,nvM w,[]⟩⟩) (.bool ((w.length:Int)==3)) (by simp[HV.close,HV.closeL,Nd.cv,rq0,Rq.cv,CV.denil,CV.denilL,HV.norm,HV.toC,HV.toCL]) ⟨_,_,rfl,rfl,aZ1 hw hN hM⟩
    have nt73:wd w 0≠bT:=by simpa[bT]using hb
    clear hb;refine R0 ?_;refine aG (b:=wd w 0==[114,101,108,101,97,115,101,100]) rfl (fun hb=>?_) (fun hb=>?_)
    ·
     have hw:wd w 0=bM:=by simpa[bM]using hb
     clear hb;refine aB fun K hK=>Rg ?_;iterate 8 refine S0 ?_
     refine T2 (hK _ _ _ ?_);clear hK K;refine aE (RT Tryz.results92 ?_);exact aO [] (Nd.cv ⟨1,0,0,⟨1,nvN w,0,[]⟩⟩) (.bool ((w.length:Int)==2)) (by simp[HV.close,HV.closeL,Nd.cv,rq0,Rq.cv,CV.denil,CV.denilL,HV.norm,HV.toC,HV.toCL]) ⟨_,_,rfl,rfl,aS4 hw hN⟩
    have nt82:wd w 0≠bM:=by simpa[bM]using hb
    clear hb;refine R0 ?_;refine aG (b:=wd w 0==[97,112,112,114,111,118,101,100]) rfl (fun hb=>?_) (fun hb=>?_)
    ·
     have hw:wd w 0=bO:=by simpa[bO]using hb
     clear hb;refine aB fun K hK=>Rg ?_;iterate 8 refine S0 ?_
     refine T2 (hK _ _ _ ?_);clear hK K;refine aE (RT Tryz.results92 ?_);exact aO [] (Nd.cv ⟨1,0,0,⟨3,nvN w,0,[]⟩⟩) (.bool ((w.length:Int)==2)) (by simp[HV.close,HV.closeL,Nd.cv,rq0,Rq.cv,CV.denil,CV.denilL,HV.norm,HV.toC,HV.toCL]) ⟨_,_,rfl,rfl,aS5 hw hN⟩
    have nt90:wd w 0≠bO:=by simpa[bO]using hb
    clear hb;refine R0 ?_;refine aG (b:=wd w 0==[108,105,115,116,101,100]) rfl (fun hb=>?_) (fun hb=>?_)
    ·
     have hw:wd w 0=cC:=by simpa[cC]using hb
     clear hb;refine aB fun K hK=>Rg ?_;iterate 8 refine S0 ?_
     refine T2 (hK _ _ _ ?_);clear hK K;refine aE (RT Tryz.results92 ?_);exact aO [] (Nd.cv ⟨1,0,0,⟨5,nvN w,0,[]⟩⟩) (.bool ((w.length:Int)==2)) (by simp[HV.close,HV.closeL,Nd.cv,rq0,Rq.cv,CV.denil,CV.denilL,HV.norm,HV.toC,HV.toCL]) ⟨_,_,rfl,rfl,bL4 hw hN⟩
    have nt98:wd w 0≠cC:=by simpa[cC]using hb
    clear hb;refine R0 ?_;refine aG (b:=wd w 0==[99,108,101,97,110]) rfl (fun hb=>?_) (fun hb=>?_)
    ·
     have hw:wd w 0=cO:=by simpa[cO]using hb
     clear hb;refine aB fun K hK=>Rg ?_;iterate 8 refine S0 ?_
     refine T2 (hK _ _ _ ?_);clear hK K;refine aE (RT Tryz.results92 ?_);exact aO [] (Nd.cv ⟨1,0,0,⟨6,nvN w,0,[]⟩⟩) (.bool ((w.length:Int)==2)) (by simp[HV.close,HV.closeL,Nd.cv,rq0,Rq.cv,CV.denil,CV.denilL,HV.norm,HV.toC,HV.toCL]) ⟨_,_,rfl,rfl,bX5 hw hN⟩
    have nt106:wd w 0≠cO:=by simpa[cO]using hb
    clear hb;refine R0 ?_;refine aG (b:=wd w 0==[102,114,101,115,104]) rfl (fun hb=>?_) (fun hb=>?_)
    ·
     have hw:wd w 0=cR:=by simpa[cR]using hb
     clear hb;refine aB fun K hK=>Rg ?_;iterate 8 refine S0 ?_
     refine T2 (hK _ _ _ ?_);clear hK K;refine aE (RT Tryz.results92 ?_);exact aO [] (Nd.cv ⟨1,0,0,⟨7,nvN w,0,[]⟩⟩) (.bool ((w.length:Int)==2)) (by simp[HV.close,HV.closeL,Nd.cv,rq0,Rq.cv,CV.denil,CV.denilL,HV.norm,HV.toC,HV.toCL]) ⟨_,_,rfl,rfl,bX6 hw hN⟩
    have nt114:wd w 0≠cR:=by simpa[cR]using hb
    clear hb;refine aJ ?_;refine T0 (hK _ _ _ ?_);clear hK K;have F:=@bX8;refine RF ?_;refine aE (RT Tryz.results92 ?_);exact aO [] nd0.cv (.bool false) (by simp[HV.close,HV.closeL,Nd.cv,nd0,rq0,Rq.cv,CV.denil,CV.denilL,HV.norm,HV.toC,HV.toCL]) ⟨nd0,false,rfl,rfl,bX7 _ nt36 nt42 nt48 nt55 nt62 nt73 nt82 nt90 nt98 nt106 nt114⟩
   refine Rg ?_;iterate 3 refine S0 ?_
   refine aD 27 rfl (fun h6_27=>?_) (fun h6_27=>?_)
   ·
    have F:=h6_27;iterate 3 refine SF ?_
    refine T4 ?_;exact key true _ _ _ (by simp only[h6_27,Bool.true_or,Bool.false_or]) (fF)
   have F:=h6_27;iterate 3 refine SF ?_
   refine aD 30 rfl (fun h6_30=>?_) (fun h6_30=>?_)
   · simp only[h6_30];refine T4 ?_;exact key true _ _ _ (by simp only[h6_27,h6_30,Bool.true_or,Bool.false_or]) (fF)
   simp only[h6_30];refine T4 ?_;exact key false _ _ _ (by simp only[h6_27,h6_30,Bool.true_or,Bool.false_or]) (fF)
  refine R0 ?_;refine aG (b:=decide ((3:Int)≤w.length)) rfl (fun hb=>?_) (fun hb=>?_)
  ·
   have h2:2<w.length:=by simp at hb;omega
   clear hb;refine Rg ?_;have F:=aI @Int.natCast_nonneg (aI @Int.ofNat_lt (aI h2 (cF h2)));iterate 3 refine SF ?_
   refine HS rfl rfl fun K' hK'=>T6 ?_;refine C1 (pF (wd w 2)) ?_;rintro u rfl;refine AX (hK' _ _ ?_);clear hK' K';refine SF ?_;refine T4 ?_;exact key2 _ _ _ _ (by rw[nvM,if_pos (by omega)]) (fF)
  refine aJ (T3 ?_);exact key2 0 _ _ _ (by rw[nvM,if_neg (by simp at hb;omega)]) (fF)
 refine aB fun K hK=>?_;have key: ∀(b:Bool) fr ob nx,b=(decide ((2:Int)≤w.length)&&!(wd w 0==bJ))→Fits 0 fr ob (fin [(0,.c (.slc (w.map .str))),(2,.ptr 0 0),(4,.c (.int .i64 0)),(5,.c (.int .i64 0)),(14,.c (.bool b))]) (fob [(0,.box 40 (.c nd0.cv))]) 100→K fr ob nx:=by
  rintro b fr ob nx rfl hf;refine hK _ _ _ (bH hf ?_);clear hf hK K;refine aG (b:=decide ((2:Int)≤w.length)&&!(wd w 0==bJ)) rfl (fun hb=>?_) (fun hb=>?_)
  ·
   have hb2:2≤w.length∧wd w 0≠bJ:=by
    simp only[Bool.and_eq_true,decide_eq_true_eq,Bool.not_eq_true',beq_eq_false_iff_ne]at hb;exact⟨by omega,hb.2⟩
   have h1:1<w.length:=by omega
   clear hb;refine Rg ?_;iterate 3 refine S0 ?_ (e:=fun _ h_=>by simp only[sH,↓sP,sA,tyS,simprocAttr,Int.natCast_nonneg,Int.ofNat_lt,Int.one_nonneg,h1,cF h1];exact AX h_)
   refine HS rfl rfl fun K' hK'=>?_;simp only[sH,↓sP,sA,tyS,simprocAttr,Int.natCast_nonneg,Int.ofNat_lt,Int.one_nonneg,h1,cF h1];refine C1 (pF (wd w 1)) ?_;rintro u rfl;refine AX (hK' _ _ ?_);clear hK' K';refine S0 ?_ (e:=fun _ h_=>by simp only[sH,↓sP,sA,tyS,simprocAttr,Int.natCast_nonneg,Int.ofNat_lt,Int.one_nonneg,h1,cF h1];exact AX h_);refine T4 ?_;exact key _ _ _ _ (by rw[nvN,if_pos hb2]) (fF)
  refine aJ (T3 ?_);exact key 0 _ _ _ (by
   rw[nvN,if_neg];rintro⟨h1,h2⟩;simp[h2]at hb;omega) (fF)
 refine Rg ?_;iterate 4 refine S0 ?_ (e:=fun _ h_=>by simp only[sH,↓sP,sA,tyS,simprocAttr,Int.natCast_nonneg,Int.ofNat_lt,h0,hw0,Int.natCast_pos,Int.le_refl,Int.toNat_zero];exact AX h_)
 refine aD 8 rfl (fun h2_8=>?_) (fun h2_8=>?_)
 ·
  iterate 5 refine S0 ?_ (e:=fun _ h_=>by simp only[sH,↓sP,sA,tyS,simprocAttr,Int.natCast_nonneg,Int.ofNat_lt,h0,hw0,Int.natCast_pos,Int.le_refl,Int.toNat_zero,h2_8];exact AX h_)
  refine aD 13 rfl (fun h2_13=>?_) (fun h2_13=>?_)
  · simp only[h2_13];refine T4 ?_;exact key true _ _ _ (by simp only[bJ,h2_8,h2_13,Bool.true_and,Bool.false_and]) (aL (by omega) (by simp[aY,fin_at,finA_at,upd_at,HV.men,HV.menL,HV.norm,HV.toC,HV.toCL,nd0,Nd.cv,rq0,Rq.cv]) (by simp[aZ,fob_at,upd_at,none0_at,bV,HO.men,HV.men,HV.menL,HV.norm,HV.toC,HV.toCL,nd0,Nd.cv,rq0,Rq.cv]))
  simp only[h2_13];refine T4 ?_;exact key false _ _ _ (by simp only[bJ,h2_8,h2_13,Bool.true_and,Bool.false_and]) (aL (by omega) (by simp[aY,fin_at,finA_at,upd_at,HV.men,HV.menL,HV.norm,HV.toC,HV.toCL,nd0,Nd.cv,rq0,Rq.cv]) (by simp[aZ,fob_at,upd_at,none0_at,bV,HO.men,HV.men,HV.menL,HV.norm,HV.toC,HV.toCL,nd0,Nd.cv,rq0,Rq.cv]))
 iterate 5 refine S0 ?_ (e:=fun _ h_=>by simp only[sH,↓sP,sA,tyS,simprocAttr,Int.natCast_nonneg,Int.ofNat_lt,h0,hw0,Int.natCast_pos,Int.le_refl,Int.toNat_zero,h2_8];exact AX h_)
 refine T4 ?_;exact key false _ _ _ (by simp only[bJ,h2_8,Bool.true_and,Bool.false_and]) (aL (by omega) (by simp[aY,fin_at,finA_at,upd_at,HV.men,HV.menL,HV.norm,HV.toC,HV.toCL,nd0,Nd.cv,rq0,Rq.cv]) (by simp[aZ,fob_at,upd_at,none0_at,bV,HO.men,HV.men,HV.menL,HV.norm,HV.toC,HV.toCL,nd0,Nd.cv,rq0,Rq.cv]))
theorem bL6 (l:List Nd)(hl:l.length<2^40):aG3 Tryz.prog 76 [(22,.slc (l.map Nd.cv))] (bwL l):=by
 refine aA7 Tryz.func76 rfl (by kernel_rfl) (Nat.le_of_ble_eq_true rfl) rfl fun L J hS hY=>?_;have e0:kK [(22,CV.slc (l.map Nd.cv))]=fob [(0,.box 22 (.c (.slc (l.map Nd.cv))))]:=by
  funext i
  match i with
  |0=>rfl
  |i+1=>simp[kK,fob,upd]
 have e1:iF (List.range [((22:Nat),CV.slc (l.map Nd.cv))].length)=[.ptr 0 0]:=rfl;rw[e0,e1];refine fQ fun K hK=>nS hS rfl (aK (by kernel_rfl) ?_);simp only[sR,simprocAttr];iterate 4 refine S0 ?_ (e:=fun _ h_=>by simp only[sH,↓sP,sA,tyS,simprocAttr,rI,cQ ((l.length:Int)-1) (by omega),List.length_map];exact AX h_)
 simp only[sE,↓reduceIte,simprocAttr,rI];refine hK _ _ _ _ _ ?_;clear hK K;refine oY ?_;refine aO4 (α:={j:Nat//j≤l.length}) hS (fun j=>(fin [(0,.opq (.func (.yield L) #[] #[])),(1,.ptr 0 0),(3,.c (.int .i64 ((l.length:Int)-1-j.1)))],fob [(0,.box 22 (.c (.slc (l.map Nd.cv))))])) (fun j=>j.1) 100 (fun j=>l.length-j.1) ⟨0,Nat.zero_le _⟩ rfl (fF) rfl ?_;rintro⟨j,hj⟩;refine fQ fun K hK=>?_;refine fQ fun K1 hK1=>nS hS rfl (aK (by kernel_rfl) ?_);simp only[sR,simprocAttr];have F:=rI;iterate 2 refine SF ?_
 simp only[sE,↓reduceIte,simprocAttr,rI];refine hK1 _ _ _ _ _ ?_;clear hK1 K1;refine kE (b:=decide ((0:Int)≤(l.length:Int)-1-j)) rfl (fun hb=>?_) (fun hb=>?_)
 ·
  have hlt:j<l.length:=by simp at hb;omega
  have hi2:l.length-1-j<l.length:=by omega
  have hxl:j<(bwL l).length:=by rw[sG];exact hlt
  have hx:=bV5 hxl hi2;have hcast:(l.length:Int)-1-j=((l.length-1-j:Nat):Int):=by omega
  have hw1:IntKind.i64.wrap (((l.length-1-j:Nat):Int)-1)=(l.length:Int)-1-((j:Int)+1):=by rw[cQ _ (by omega)];omega
  refine nT ?_;simp only[sE,↓reduceIte,simprocAttr,rI];refine hK _ _ _ _ _ ?_;clear hK K;refine fQ fun K hK=>?_;refine oY ?_;refine fQ fun K1 hK1=>tH (l:=L) 6 hS hY rfl (by kernel_rfl) (by decide) ?_;simp only[sR,List.range',simprocAttr];have F:=aI rI (aI hcast (aI @List.length_map.{0,0} (aI @Int.natCast_nonneg (aI @Int.ofNat_lt (aI hi2 (nM hi2))))));iterate 6 refine SF ?_
  rw[hlex];refine⟨_,_,_,hxl,rfl,rfl,rfl,rfl,rfl,?_,?_,?_⟩
  · rw[hx];simp only[hcast];rfl
  ·
   simp only[sR,List.range',simprocAttr];have F:=rI;refine SF ?_;simp only[sE,↓reduceIte,simprocAttr,rI];refine hK1 _ _ _ _ _ ?_;clear hK1 K1;refine kE (b:=false) rfl (fun hb=>by cases hb) (fun _=>?_);refine nT ?_;simp only[sE,↓reduceIte,simprocAttr,rI];refine hK _ _ _ _ _ ?_;clear hK K;refine nS hS rfl (aK (by kernel_rfl) ?_);simp only[sR,simprocAttr];have F:=aI rI (aI hcast hw1);iterate 3 refine SF ?_
   simp only[sE,↓reduceIte,simprocAttr,rI];refine⟨⟨j+1,hlt⟩,fF,trivial,rfl,?_⟩;show l.length-(j+1)<l.length-j;omega
  simp only[sR,List.range',simprocAttr];have F:=rI;refine SF ?_;simp only[sE,↓reduceIte,simprocAttr,rI];refine hK1 _ _ _ _ _ ?_;clear hK1 K1;refine kE (b:=true) rfl (fun _=>?_) (fun hb=>by cases hb);refine bC3 ?_;simp only[sE,↓reduceIte,simprocAttr,rI];exact⟨by simp,fun h=>by cases h⟩
 have hji:j=l.length:=by simp at hb;omega
 refine aO3 ?_;simp only[sE,↓reduceIte,simprocAttr,rI];exact⟨by simp,fun _=>by rw[sG];exact hji⟩
end Go.Proofs.YtlldglbooaefhaaGreatDoor
