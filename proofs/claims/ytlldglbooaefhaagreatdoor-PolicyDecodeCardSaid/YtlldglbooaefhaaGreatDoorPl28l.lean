/- Plain Lean: the rows that Eval makes (28.6). By an AI agent. -/
import Derived.Test.YtlldglbooaefhaaGreatDoorHzU1
import Derived.Test.YtlldglbooaefhaaGreatDoorHlTlaw
import Derived.Test.YtlldglbooaefhaaGreatDoorHzV4
import Derived.Test.YtlldglbooaefhaaGreatDoorPl11w
import Derived.Test.YtlldglbooaefhaaGreatDoorPl03c
import Derived.Test.YtlldglbooaefhaaGreatDoorHzUj
import Derived.Test.YtlldglbooaefhaaGreatDoorHlIt
import Derived.Test.YtlldglbooaefhaaGreatDoorHzTc
set_option linter.unusedSimpArgs false
set_option linter.unusedVariables false
set_option linter.defProp false
namespace Go.Proofs.YtlldglbooaefhaaGreatDoor
open Go Go.Hl Go.Pl
set_option maxRecDepth 10000
set_option maxHeartbeats 16000000
theorem aS1 (w:aF)(hl:w.length<2^40):cF Tryz.prog 67 [.str w] (fun v=>v= .str (iE w)):=by
 refine FW Tryz.func67 ?_;refine R0 ?_;refine aB fun K hK=>?_;refine R0 ?_;refine aG (b:=w==[]) rfl (fun hb=>?_) (fun hb=>?_)
 · refine R0 ?_;refine aE (RT Tryz.results67 ?_);exact aH [] (.str [126]) rfl (by rw[iE,if_pos (by simpa using hb)])
 refine aJ ?_;refine T0 (hK _ _ _ ?_);clear hK K;have hne:w≠[]:=by simpa using hb
 clear hb;refine R0 ?_;refine R0 ?_;refine aB fun K hK=>?_;refine R0 ?_;refine aN ?_;refine jX 4 0 5 1 rfl rfl rfl rfl ?_;refine bR (α:={i:Nat//i≤w.length}) (fun i=>(fin [(0,.c (.str w)),(3,.c (.str [48,49,50,51,52,53,54,55,56,57,65,66,67,68,69,70])),(4,.own 24 (dA (w.take i.1)).length),(5,.c (.int .i64 i.1))],fob [(24,.row 5 1 ((dA (w.take i.1)).map dM))])) 100 (fun i=>w.length-i.1) ⟨0,by omega⟩ (fF) ?_;rintro⟨i,hi⟩;have hle:=kY w i;have hle3:=rA w;refine aB fun K hK=>?_;refine aB fun K hK=>Rg ?_;iterate 4 refine S0 ?_
 refine T2 (hK _ _ _ ?_);clear hK K;refine aG (b:=decide ((i:Int)<w.length)) rfl (fun hb=>?_) (fun hb=>?_)
 ·
  have hlt:i<w.length:=by simpa using hb
  have hgd:w.getD i 0=w[i]:=by simp[hlt]
  have hs:=pW hlt;refine aJ ?_;refine T0 (hK _ _ _ ?_);clear hK K;refine aB fun K hK=>?_;refine aN ?_;refine aB fun K hK=>Rg ?_;iterate 3 refine S0 ?_ (e:=fun _ h_=>by simp only[sH,↓sP,sA,tyS,simprocAttr,Int.natCast_nonneg,Int.ofNat_lt,hlt,hgd];exact AX h_)
  refine HS rfl rfl fun K' hK'=>?_;simp only[sH,↓sP,sA,tyS,simprocAttr,Int.natCast_nonneg,Int.ofNat_lt,hlt,hgd];refine C1 (tI w[i]) ?_;rintro u rfl;refine AX (hK' _ _ ?_);clear hK' K';refine T2 (hK _ _ _ ?_);clear hK K;refine aG (b:=cU w[i]) rfl (fun hb=>?_) (fun hb=>?_)
  ·
   refine Rg ?_;iterate 7 refine S0 ?_ (e:=fun _ h_=>by simp only[sH,↓sP,sA,tyS,simprocAttr,Int.natCast_nonneg,Int.ofNat_lt,hlt,hgd,List.length_append,List.length_map];exact AX h_)
   refine T2 (hK _ _ _ ?_);clear hK K;refine aK (by kernel_rfl) ?_;refine TQ (iF i) ?_;refine⟨⟨i+1,hlt⟩,aM (by omega) ?_ ?_,?_⟩
   · rw[hs,jI,if_pos hb];simp[aZ,upd_at,fin_at,HV.men]
   · rw[hs,jI,if_pos hb,List.map_append];exact⟨rfl,by omega,trivial,trivial⟩
   show w.length-(i+1)<w.length-i;omega
  have h16:((w[i].toNat/16:Nat):Int)<16:=by have:=w[i].toNat_lt;omega
  have h15:((w[i].toNat%16:Nat):Int)<16:=by omega
  refine DW [(0,[],[]),(1,[],[]),(2,[],[]),(3,[],[]),(4,[],[]),(5,[],[]),(6,[],[]),(7,[],[]),(8,[],[]),(9,[],[]),(10,[],[]),(11,[],[]),(12,[],[]),(13,[],[]),(14,[],[]),(15,[],[])] [0,0,0,0,12,28,62,0,0,0,768,1792,3968,8190,16383,32767] ?_;iterate 16 refine W0 ?_ (e:=fun _ h_=>by simp only[sH,↓sP,sA,tyS,simprocAttr,Int.natCast_nonneg,Int.ofNat_lt,hlt,hgd,List.length_append,List.length_map,cN3,cG6,h16,h15];exact AX h_)
  refine T2 (hK _ _ _ ?_);clear hK K;refine aK (by kernel_rfl) ?_;refine TQ (iF i) ?_;refine⟨⟨i+1,hlt⟩,aM (by omega) ?_ ?_,?_⟩
  · rw[hs,jI,if_neg (by rw[hb];simp)];simp[aZ,upd_at,fin_at,HV.men]
  · rw[hs,jI,if_neg (by rw[hb];simp),List.map_append];exact⟨rfl,by omega,trivial,trivial⟩
  show w.length-(i+1)<w.length-i;omega
 refine bJ (T3 ?_);clear hK K;refine AX (hK _ _ _ ?_);clear hK K;refine dN [24] (bM (fr2:=fin [(4,.c (.slc ((dA (w.take i)).map dM)))]) (ob2:=fob []) (nx2:=200) (aM (by omega) (by simp[aZ,eX,fin_at,finA_at,upd_at,fob_at,HV.close,HV.closeL,CV.denil,CV.denilL,dH,HV.men,HV.menL,HV.norm,HV.toC,HV.toCL]) (by simp[bA,eY,fob_at,upd_at,none0_at,bX,HO.close,HV.close,HV.closeL,HO.men,HV.men,HV.menL,HV.norm,HV.toC,HV.toCL])) ?_);have F:=@bytesC_map;refine RF ?_;refine aE (RT Tryz.results67 ?_);have hei:i=w.length:=by simp at hb;omega
 subst hei;exact aH [] (.str (dA w)) (by rw[List.take_length];rfl) (by rw[iE,if_neg hne])
theorem cE6 (ls:List (List aF))(h0:ls.length<2^40)(h1: ∀l∈ls,l.length<2^40):iB Tryz.prog 37 [.slc (ls.map fun l=> .slc (l.map .str))] (fun u v=>u= .slc ((pX ls).map dM)∧v= .int .i64 (iY ls)):=by
 refine FW Tryz.func37 ?_;refine R0 ?_;refine aB fun K hK=>?_;refine R0 ?_;refine aG (b:=decide ((1000:Int)<ls.length)) rfl (fun hb=>?_) (fun hb=>?_)
 · refine R0 ?_;refine aE (RT Tryz.results37 ?_);have hE:=tA (ls:=ls) (by simp at hb;omega);refine aO [] (.slc []) (.int .i64 3) ?_ ⟨by rw[iR (by rw[hE];decide)];rfl,by rw[hE]⟩;simp[HV.close,HV.closeL,CV.denil,CV.denilL,HV.norm,HV.toC,HV.toCL]
 refine aJ ?_;refine T0 (hK _ _ _ ?_);clear hK K;have hn:ls.length≤1000:=by simp at hb;omega
 clear hb;refine R0 ?_;refine aB fun K hK=>?_;refine R0 ?_;refine aN ?_;refine jX 4 0 5 1 rfl rfl rfl rfl ?_;refine bR (α:={i:Nat//i≤ls.length∧ ∀x∈ls.take i,okL x=true}) (fun i=>(fin [(0,.c (.slc (ls.map fun l=> .slc (l.map .str)))),(4,.own 28 (fX (ls.take i.1)).length),(5,.c (.int .i64 i.1))],fob [(28,.row 5 1 ((fX (ls.take i.1)).map dM))])) 100 (fun i=>ls.length-i.1) ⟨0,by omega,by simp⟩ (fF) ?_;rintro⟨i,hi,hk⟩;refine aB fun K hK=>?_;refine aB fun K hK=>Rg ?_;iterate 4 refine S0 ?_
 refine T2 (hK _ _ _ ?_);clear hK K;refine aG (b:=decide ((i:Int)<ls.length)) rfl (fun hb=>?_) (fun hb=>?_)
 ·
  have hlt:i<ls.length:=by simpa using hb
  clear hb;have hl1:=h1 ls[i] (List.getElem_mem hlt);have hne: ∀l∈ls.take i,l≠[]:=fun l hl=>((kM l).1 (hk l hl)).1;have hsd:=bB3 hk;rw[List.length_take]at hsd;have hdl:=rC hne;have hdt1:=zX hlt;obtain⟨l,hl⟩: ∃l,l=ls[i]:=⟨_,rfl⟩;have hln:nth (ls.map fun l=>CV.slc (l.map .str)) i= .slc (l.map .str):=by rw[bS hlt,hl]
  rw[←hl]at hdt1 hl1;have hlti:(i:Int)<ls.length:=by omega
  refine aJ ?_;refine T0 (hK _ _ _ ?_);clear hK K;refine aB fun K hK=>?_;refine aN ?_;refine aB fun K hK=>?_;refine aB fun K hK=>Rg ?_;have F:=aI @Int.natCast_nonneg (aI @Int.ofNat_lt (aI hlt hln));iterate 6 refine SF ?_
  refine T2 (hK _ _ _ ?_);clear hK K;refine aG (b:=(l.length:Int)==0) rfl (fun hb=>?_) (fun hb=>?_)
  ·
   refine R0 ?_;refine aE (RT Tryz.results37 ?_);have hc:mE l=1:=by rw[mE,if_pos (by simp at hb;simp[hb])]
   have hE:=rE hn hlt hk (by rw[←hl,okL,hc];rfl);rw[←hl,hc]at hE;refine aO [] (.slc []) (.int .i64 1) ?_ ⟨by rw[iR (by rw[hE];decide)];rfl,by rw[hE]⟩;simp[HV.close,HV.closeL,CV.denil,CV.denilL,HV.norm,HV.toC,HV.toCL]
  refine aJ ?_;refine T0 (hK _ _ _ ?_);clear hK K;refine aB fun K hK=>?_;have hn0:l.length≠0:=by simp at hb;simp[hb]
  clear hb;refine aB fun K hK=>Rg ?_;iterate 6 refine SF ?_
  refine T2 (hK _ _ _ ?_);clear hK K;refine aG (b:=decide ((120:Int)<l.length)) rfl (fun hb=>?_) (fun hb=>?_)
  ·
   refine R0 ?_;refine aE (RT Tryz.results37 ?_);have hc:mE l=3:=by rw[mE,if_neg hn0,if_pos (by simp at hb;omega)]
   have hE:=rE hn hlt hk (by rw[←hl,okL,hc];rfl);rw[←hl,hc]at hE;refine aO [] (.slc []) (.int .i64 3) ?_ ⟨by rw[iR (by rw[hE];decide)];rfl,by rw[hE]⟩;simp[HV.close,HV.closeL,CV.denil,CV.denilL,HV.norm,HV.toC,HV.toCL]
  refine aJ ?_;refine T0 (hK _ _ _ ?_);clear hK K;refine aB fun K hK=>?_;have hn1:l.length≤120:=by simp at hb;omega
  clear hb;refine R0 ?_;refine aN ?_;refine bR (α:={k:Nat//k≤l.length∧ ∀x∈l.take k,x.length≤32768}) (fun k=>(fin [(0,.c (.slc (ls.map fun l=> .slc (l.map .str)))),(4,.own 28 (fX (ls.take i)++gS (l.take k.1)).length),(5,.c (.int .i64 i)),(6,.c (.int .i64 k.1))],fob [(28,.row 5 1 ((fX (ls.take i)++gS (l.take k.1)).map dM))])) 200 (fun k=>l.length-k.1) ⟨0,by omega,by simp⟩ (fF) ?_;rintro⟨k,hk',hkw⟩;have hsw:=bP3 (l.take k) hkw;rw[List.length_take]at hsw;refine aB fun K hK=>?_;refine aB fun K hK=>Rg ?_;have F:=aI @Int.natCast_nonneg (aI hlti hln);iterate 7 refine SF ?_
  refine T2 (hK _ _ _ ?_);clear hK K;refine aG (b:=decide ((k:Int)<l.length)) rfl (fun hb=>?_) (fun hb=>?_)
  ·
   have hlk:k<l.length:=by simpa using hb
   clear hb;refine aJ ?_;refine T0 (hK _ _ _ ?_);clear hK K;refine aB fun K hK=>?_;refine aN ?_;refine aB fun K hK=>?_;refine aB fun K hK=>Rg ?_;have F:=aI @Int.natCast_nonneg (aI @Int.ofNat_lt (aI hlt (aI hln (aI hlk (nM hlk)))));iterate 9 refine SF ?_
   refine T2 (hK _ _ _ ?_);clear hK K;refine aG (b:=decide ((32768:Int)<l[k].length)) rfl (fun hb=>?_) (fun hb=>?_)
   ·
    refine R0 ?_;refine aE (RT Tryz.results37 ?_);have hc:mE l=3:=by rw[mE,if_neg hn0,if_neg (by omega),if_pos];simp only[List.any_eq_true,decide_eq_true_eq];exact⟨_,List.getElem_mem hlk,by simp at hb;omega⟩
    have hE:=rE hn hlt hk (by rw[←hl,okL,hc];rfl);rw[←hl,hc]at hE;refine aO [] (.slc []) (.int .i64 3) ?_ ⟨by rw[iR (by rw[hE];decide)];rfl,by rw[hE]⟩;simp[HV.close,HV.closeL,CV.denil,CV.denilL,HV.norm,HV.toC,HV.toCL]
   refine aJ ?_;refine T0 (hK _ _ _ ?_);clear hK K;refine aB fun K hK=>?_;have hw2:l[k].length≤32768:=by simp at hb;omega
   clear hb;have hel:=rB l[k];have hsz:=nO l[k];have hsp:=zV l[k];have hpe:0<(iE l[k]).length:=by omega
   have htk:=zW hlk;have hbe:(fX (ls.take i)).length+(gS (l.take k)).length+(iE l[k]).length≤140737488355328:=by omega
   have hbe1:(fX (ls.take i)).length+(gS (l.take k)).length+1+(iE l[k]).length≤140737488355328:=by omega
   refine R0 ?_;refine aG (b:=decide ((0:Int)<k)) rfl (fun hb=>?_) (fun hb=>?_)
   ·
    refine Rg ?_;have F:=aI @List.length_append.{0} @List.length_map.{0,0};iterate 4 refine SF ?_
    refine T2 (hK _ _ _ ?_);clear hK K;refine Rg ?_;iterate 8 refine S0 ?_ (e:=fun _ h_=>by simp only[sH,↓sP,sA,tyS,simprocAttr,Int.natCast_nonneg,Int.ofNat_lt,hlt,hln,hlk,bS hlk,List.length_append,List.length_map,hpe,hbe,hbe1];exact AX h_)
    refine HS rfl rfl fun K' hK'=>?_;simp only[sH,↓sP,sA,tyS,simprocAttr,Int.natCast_nonneg,Int.ofNat_lt,hlt,hln,hlk,bS hlk,List.length_append,List.length_map,hpe,hbe,hbe1];refine C1 (aS1 l[k] (by omega)) ?_;rintro u rfl;refine AX (hK' _ _ ?_);clear hK' K';iterate 2 refine S0 ?_ (e:=fun _ h_=>by simp only[sH,↓sP,sA,tyS,simprocAttr,Int.natCast_nonneg,Int.ofNat_lt,hlt,hln,hlk,bS hlk,List.length_append,List.length_map,hpe,hbe,hbe1];exact AX h_)
    refine T2 (hK _ _ _ ?_);clear hK K;refine aK (by kernel_rfl) ?_;refine TQ (iF k) ?_;have hk0:k≠0:=by simp at hb;omega
    refine⟨⟨k+1,hlk,sZ (p:=fun x=>x.length≤32768) hlk hw2 hkw⟩,aM (by omega) ?_ ?_,?_⟩
    · rw[htk,if_neg hk0];simp[aZ,upd_at,fin_at,HV.men];omega
    · rw[htk,if_neg hk0];simp only[List.map_append,←List.append_assoc];exact⟨rfl,by omega,trivial,trivial⟩
    show l.length-(k+1)<l.length-k;omega
   refine aJ ?_;refine T0 (hK _ _ _ ?_);clear hK K;refine Rg ?_;iterate 8 refine S0 ?_ (e:=fun _ h_=>by simp only[sH,↓sP,sA,tyS,simprocAttr,Int.natCast_nonneg,Int.ofNat_lt,hlt,hln,hlk,bS hlk,List.length_append,List.length_map,hpe,hbe,hbe1];exact AX h_)
   refine HS rfl rfl fun K' hK'=>?_;simp only[sH,↓sP,sA,tyS,simprocAttr,Int.natCast_nonneg,Int.ofNat_lt,hlt,hln,hlk,bS hlk,List.length_append,List.length_map,hpe,hbe,hbe1];refine C1 (aS1 l[k] (by omega)) ?_;rintro u rfl;refine AX (hK' _ _ ?_);clear hK' K';iterate 2 refine S0 ?_ (e:=fun _ h_=>by simp only[sH,↓sP,sA,tyS,simprocAttr,Int.natCast_nonneg,Int.ofNat_lt,hlt,hln,hlk,bS hlk,List.length_append,List.length_map,hpe,hbe,hbe1];exact AX h_)
   refine T2 (hK _ _ _ ?_);clear hK K;refine aK (by kernel_rfl) ?_;refine TQ (iF k) ?_;have hk0:k=0:=by simp at hb;omega
   refine⟨⟨k+1,hlk,sZ (p:=fun x=>x.length≤32768) hlk hw2 hkw⟩,aM (by omega) ?_ ?_,?_⟩
   · rw[htk,if_pos hk0];simp[aZ,upd_at,fin_at,HV.men];omega
   · rw[htk,if_pos hk0,List.nil_append];simp only[List.map_append,←List.append_assoc];exact⟨rfl,by omega,trivial,trivial⟩
   show l.length-(k+1)<l.length-k;omega
  have hek:k=l.length:=by simp at hb;omega
  subst hek;clear hb;rw[List.take_length]at*;have hokl:okL l=true:=(kM l).2 ⟨fun h=>hn0 (by rw[h];rfl),hn1,hkw⟩;refine bJ (T3 ?_);clear hK K;refine AX (hK _ _ _ ?_);clear hK K;refine Rg ?_;have F:=aI @List.length_append.{0} (aI @List.length_map.{0,0} @List.take_length.{0});iterate 4 refine SF ?_
  refine T2 (hK _ _ _ ?_);clear hK K;refine aK (by kernel_rfl) ?_;refine TQ (iF i) ?_;refine⟨⟨i+1,hlt,sZ (p:=fun x=>okL x=true) hlt (by rw[←hl];exact hokl) hk⟩,aM (by omega) ?_ ?_,?_⟩
  · rw[hdt1,yQ];simp[aZ,upd_at,fin_at,HV.men];try omega
  · rw[hdt1,yQ];simp only[List.map_append,←List.append_assoc,List.take_length];exact⟨rfl,by omega,trivial,trivial⟩
  show ls.length-(i+1)<ls.length-i;omega
 have hei:i=ls.length:=by simp at hb;omega
 subst hei;clear hb;rw[List.take_length]at hk;have hE:=vJ hn hk;refine bJ (T3 ?_);clear hK K;refine AX (hK _ _ _ ?_);clear hK K;refine aB fun K hK=>?_;have F:=aI @List.take_length.{0} @List.length_map.{0,0};refine RF ?_;refine aG (b:=decide ((262144:Int)<(fX ls).length)) rfl (fun hb=>?_) (fun hb=>?_)
 · refine R0 ?_;refine aE (RT Tryz.results37 ?_);rw[if_pos (by simp at hb;omega)]at hE;refine aO [] (.slc []) (.int .i64 3) ?_ ⟨by rw[iR (by rw[hE];decide)];rfl,by rw[hE]⟩;simp[HV.close,HV.closeL,CV.denil,CV.denilL,HV.norm,HV.toC,HV.toCL]
 refine aJ ?_;refine T0 (hK _ _ _ ?_);clear hK K;refine R0 ?_;refine aE (RT Tryz.results37 ?_);rw[if_neg (by simp at hb;omega)]at hE;refine aO [28] (.slc ((fX ls).map dM)) (.int .i64 0) ?_ ⟨by rw[vK hE],by rw[hE]⟩;simp[HV.close,fob_at,upd_at,HV.norm,HV.toC,HV.closeL,HV.toCL,List.take_of_length_le,CV.denil,dH]
theorem cE7 (b:aF)(hl:b.length<2^40):iB Tryz.prog 38 [.slc (b.map u8)] (fun u v=>u= .slc ((decO b).map lsC)∧v= .int .i64 (eG b)):=by
 refine FW Tryz.func38 ?_;refine R0 ?_;refine aB fun K hK=>?_;have F:=@List.length_map.{0,0};refine RF ?_;refine aG (b:=decide ((262144:Int)<b.length)) rfl (fun hb=>?_) (fun hb=>?_)
 ·
  refine R0 ?_;refine aE (RT Tryz.results38 ?_);have hE:eG b=3:=by unfold eG;rw[if_pos (by simp at hb;omega)]
  refine aO [] (.slc []) (.int .i64 3) ?_ ⟨by simp only[decO,hE];rfl,by rw[hE]⟩;simp[HV.close,HV.closeL,CV.denil,CV.denilL,HV.norm,HV.toC,HV.toCL]
 refine aJ ?_;refine T0 (hK _ _ _ ?_);clear hK K;refine aB fun K hK=>?_;have hle: ¬262144<b.length:=by simp at hb;omega
 clear hb;refine RF ?_;refine aG (b:=(b.length:Int)==0) rfl (fun hb=>?_) (fun hb=>?_)
 ·
  refine R0 ?_;refine aE (RT Tryz.results38 ?_);have hbe:b=[]:=by simpa using hb
  subst hbe;refine aO [] (.slc []) (.int .i64 0) ?_ ⟨rfl,rfl⟩;simp[HV.close,HV.closeL,CV.denil,CV.denilL,HV.norm,HV.toC,HV.toCL]
 refine aJ ?_;refine T0 (hK _ _ _ ?_);clear hK K;refine aB fun K hK=>?_;have hne:b≠[]:=by rintro rfl;simp at hb
 clear hb;have hpos:0<b.length:=List.length_pos_iff.2 hne;have hlt1:b.length-1<b.length:=by omega
 have hwl:IntKind.i64.wrap ((b.length:Int)-1)=((b.length-1:Nat):Int):=by rw[IntWalk.i64_in _ (by omega)];omega
 refine aB fun K hK=>Rg ?_;have F:=aI @List.length_map.{0,0} (aI hwl (aI @Int.natCast_nonneg (aI @Int.ofNat_lt (aI hlt1 (aI (nM hlt1) @u8.eq_1)))));iterate 7 refine SF ?_
 refine T2 (hK _ _ _ ?_);clear hK K;refine aG (b:=((b[b.length-1]).toNat:Int) !=10) rfl (fun hb=>?_) (fun hb=>?_)
 ·
  refine R0 ?_;refine aE (RT Tryz.results38 ?_);have hE:eG b=2:=bJ0 hle hne (by
   intro h;rw[List.getD_eq_getElem?_getD,List.getElem?_eq_getElem hlt1]at h;simp only[Option.getD_some]at h;rw[h]at hb;simp at hb)
  refine aO [] (.slc []) (.int .i64 2) ?_ ⟨by simp only[decO,hE];rfl,by rw[hE]⟩;simp[HV.close,HV.closeL,CV.denil,CV.denilL,HV.norm,HV.toC,HV.toCL]
 refine aJ ?_;refine T0 (hK _ _ _ ?_);clear hK K;have hl10:b[b.length-1]=10:=by
  simp only[bne_eq_false_iff_eq]at hb;exact UInt8.toNat_inj.1 (by show b[b.length-1].toNat=10;omega)
 clear hb;obtain⟨m,hm⟩: ∃m,b=m++[10]:=⟨b.dropLast,by rw[←hl10,←List.getLast_eq_getElem hne];exact(List.dropLast_concat_getLast hne).symm⟩;have htk:List.take (b.length-1) (b.map u8)=m.map u8:=by rw[hm];simp
 have hbc:iX (m.map u8)=some m:=bytesC_map m;have hml:m.length+1=b.length:=by rw[hm];simp
 have hml3:(m++[(10:UInt8)]).length=m.length+1:=by simp
 rw[hm]at hle;refine aB fun K hK=>Rg ?_;have F:=aI @List.length_map.{0,0} (aI hwl (aI @Int.natCast_nonneg (aI @Int.ofNat_le (aI @Nat.sub_le (aI @lI (aI @List.drop_zero.{0} (aI @Nat.sub_zero (aI htk hbc))))))));iterate 6 refine SF ?_
 refine HS rfl rfl fun K' hK'=>T6 ?_;refine C2 (aP0 m 10 (by omega)) ?_;rintro u rfl;refine AX (hK' _ _ ?_);clear hK' K';refine SF ?_;refine T2 (hK _ _ _ ?_);clear hK K;obtain⟨rows,hrows⟩: ∃rows,rows=aS 10 m:=⟨_,rfl⟩;have hrl:=eQ 10 m;have hrs:=mF 10 m;rw[←hrows]at hrl hrs⊢;have hE2:rows.mapM unL=none→eG b=2:=fun h=>by rw[hm];exact bJ1 hle (by rw[←hrows];exact h)
 refine R0 ?_;refine aB fun K hK=>?_;refine R0 ?_;refine aN ?_;refine jX 5 0 60 1 rfl rfl rfl rfl ?_;refine bR (α:={i:Nat//i≤rows.length∧ ∀r∈rows.take i,(unL r).isSome=true}) (fun i=>(fin [(4,.c (.slc (rows.map .str))),(5,.own 100 i.1),(6,.c (.int .i64 i.1))],fob [(100,.row 60 1 ((lsT rows i.1).map lsC))])) 200 (fun i=>rows.length-i.1) ⟨0,by omega,by simp⟩ (by simp only[lsT,List.take_zero,List.map_nil];exact fF) ?_;rintro⟨i,hi,hok⟩;simp only;have hlsl:=aX0 hi;refine aB fun K hK=>?_;refine aB fun K hK=>Rg ?_;have F:=@List.length_map.{0,0};iterate 4 refine SF ?_
 refine T2 (hK _ _ _ ?_);clear hK K;refine aG (b:=decide ((i:Int)<rows.length)) rfl (fun hb=>?_) (fun hb=>?_)
 ·
  have hlt:i<rows.length:=by simpa using hb
  clear hb;obtain⟨r,hr⟩: ∃r,r=rows[i]:=⟨_,rfl⟩;have hrin:r∈rows:=by rw[hr];exact List.getElem_mem hlt
  have hrn:=hrs r hrin;have hnr:nth (rows.map CV.str) i= .str r:=by rw[bS hlt,hr]
  refine aJ ?_;refine T0 (hK _ _ _ ?_);clear hK K;refine aB fun K hK=>?_;refine aN ?_;refine aB fun K hK=>Rg ?_;have F:=aI @Int.natCast_nonneg (aI @Int.ofNat_lt (aI hlt (aI hnr @List.length_map.{0,0})));iterate 4 refine SF ?_
  refine HS rfl rfl fun K' hK'=>T6 ?_;refine C2 (aP0 r 32 (by omega)) ?_;rintro u rfl;refine AX (hK' _ _ ?_);clear hK' K';refine SF ?_;refine T2 (hK _ _ _ ?_);clear hK K;refine R0 ?_;refine aB fun K hK=>?_;refine R0 ?_;refine aN ?_;refine jX 8 0 9 1 rfl rfl rfl rfl ?_;refine bR (α:={k:Nat//k≤(aS 32 r).length∧aM8 r k}) (fun k=>(fin [(4,.c (.slc (rows.map .str))),(5,.own 100 i),(6,.c (.int .i64 i)),(7,.c (.slc ((aS 32 r).map .str))),(8,.own 248 k.1),(9,.c (.int .i64 k.1))],fob [(100,.row 60 1 ((lsT rows i).map lsC)),(248,.row 9 1 ((wsT r k.1).map .str))])) 300 (fun k=>(aS 32 r).length-k.1) ⟨0,by omega,fun p hp=>by simp at hp⟩ (by simp only[wsT,List.take_zero,List.map_nil];exact fF) ?_;rintro⟨k,hk,hwo⟩;simp only;have hwl2:=pZ hk;have hsl:=eQ 32 r;refine aB fun K hK=>?_;refine aB fun K hK=>Rg ?_;have F:=@List.length_map.{0,0};iterate 4 refine SF ?_
  refine T2 (hK _ _ _ ?_);clear hK K;refine aG (b:=decide ((k:Int)<(aS 32 r).length)) rfl (fun hb=>?_) (fun hb=>?_)
  ·
   have hkl:k<(aS 32 r).length:=by simpa using hb
   clear hb;obtain⟨p,hp⟩: ∃p,p=(aS 32 r)[k]:=⟨_,rfl⟩;have hpl:=mF 32 r p (by rw[hp];exact List.getElem_mem hkl);have hnp:nth ((aS 32 r).map CV.str) k= .str p:=by rw[bS hkl,hp]
   refine aJ ?_;refine T0 (hK _ _ _ ?_);clear hK K;refine aB fun K hK=>?_;refine aN ?_;refine aB fun K hK=>Rg ?_;have F:=aI @Int.natCast_nonneg (aI @Int.ofNat_lt (aI hkl (aI hnp @List.length_map.{0,0})));iterate 4 refine SF ?_
   refine HS rfl rfl fun K' hK'=>T6 ?_;refine D1 (cE5 p (by omega)) ?_;rintro u v ⟨rfl,rfl⟩;refine AX (hK' _ _ ?_);clear hK' K';iterate 5 refine SF ?_
   refine T2 (hK _ _ _ ?_);clear hK K;refine aB fun K hK=>?_;refine R0 ?_;refine aG (b:=!(unW p).isSome) rfl (fun hb=>?_) (fun hb=>?_)
   · refine R0 ?_;refine aE (RT Tryz.results38 ?_);have hE:=hE2 (oT hrin (bR9 hkl (by rw[←hp];simpa using hb)));refine aO [] (.slc []) (.int .i64 2) ?_ ⟨by simp only[decO,hE];rfl,by rw[hE]⟩;simp[HV.close,HV.closeL,CV.denil,CV.denilL,HV.norm,HV.toC,HV.toCL]
   refine aJ ?_;refine T0 (hK _ _ _ ?_);clear hK K;refine Rg ?_;have F:=aI @List.length_append.{0} (aI @List.length_map.{0,0} hwl2);iterate 5 refine SF ?_
   refine T2 (hK _ _ _ ?_);clear hK K;refine aK (by kernel_rfl) ?_;refine TQ (iF k) ?_;refine⟨⟨k+1,hkl,zY hkl hwo (by rw[←hp];simpa using hb)⟩,aM (by omega) ?_ ?_,?_⟩
   · simp[aZ,upd_at,fin_at,HV.men]
   · simp only[aM9 hkl,←hp,bA,List.map_append];exact⟨rfl,by omega,trivial,rfl,by omega,trivial,trivial⟩
   show(aS 32 r).length-(k+1)<(aS 32 r).length-k;omega
  refine bJ (T3 ?_);clear hK K;refine AX (hK _ _ _ ?_);clear hK K;have hke:k=(aS 32 r).length:=by simp at hb;omega
  subst hke;have hul:=cC1 hwo;obtain⟨ws,hws⟩: ∃ws,ws=wsT r (aS 32 r).length:=⟨_,rfl⟩;rw[←hws]at hul hwl2⊢;rw[←hwl2];refine dN [248] (bM (fr2:=fin [(4,.c (.slc (rows.map .str))),(5,.own 100 i),(6,.c (.int .i64 i)),(8,.c (.slc (ws.map .str)))]) (ob2:=fob [(100,.row 60 1 ((lsT rows i).map lsC))]) (nx2:=400) (aM (by omega) (by simp[aZ,eX,fin_at,finA_at,upd_at,fob_at,HV.close,HV.closeL,CV.denil,CV.denilL,denilL_str,HV.men,HV.menL,HV.norm,HV.toC,HV.toCL]) (by simp[bA,eY,fob_at,upd_at,none0_at,bX,HO.close,HV.close,HV.closeL,HO.men,HV.men,HV.menL,HV.norm,HV.toC,HV.toCL])) ?_);refine Rg ?_;have F:=aI @List.length_append.{0} (aI @List.length_map.{0,0} hlsl);iterate 5 refine SF ?_
  refine T2 (hK _ _ _ ?_);clear hK K;refine aK (by kernel_rfl) ?_;refine TQ (iF i) ?_;have hok1: ∀x∈rows.take (i+1),(unL x).isSome=true:=by
   intro x hx;rw[List.take_succ_eq_append_getElem hlt,List.mem_append,List.mem_singleton]at hx;rcases hx with hx|rfl
   · exact hok x hx
   rw[←hr,hul];rfl
  refine⟨⟨i+1,hlt,hok1⟩,aM (by omega) ?_ ?_,?_⟩
  · simp[aZ,upd_at,fin_at,HV.men]
  · simp only[bR8 hlt,←hr,hul,bA,List.map_append,Option.getD_some];exact⟨rfl,by omega,trivial,trivial⟩
  show rows.length-(i+1)<rows.length-i;omega
 refine bJ (T3 ?_);clear hK K;refine AX (hK _ _ _ ?_);clear hK K;refine aB fun K hK=>?_;have hie:i=rows.length:=by simp at hb;omega
 subst hie;have hml2:=cC2 hok;have hlens:=bS0 (rows:=rows) (n:=2^39) (fun r hr=>by have:=hrs r hr;omega);obtain⟨ls,hls⟩: ∃ls,ls=lsT rows rows.length:=⟨_,rfl⟩;rw[←hls]at hml2 hlsl hlens⊢;rw[hrows]at hml2;obtain⟨hE0,hEn⟩:=bR7 hle hml2;rw[←hm]at hE0 hEn;rw[←hlsl];refine dN [100] (bM (fr2:=fin [(5,.c (.slc (ls.map lsC)))]) (ob2:=fob []) (nx2:=300) (aM (by omega) (by simp[aZ,eX,fin_at,finA_at,upd_at,fob_at,HV.close,HV.closeL,CV.denil,CV.denilL,aV,HV.men,HV.menL,HV.norm,HV.toC,HV.toCL]) (by simp[bA,eY,fob_at,upd_at,none0_at,bX,HO.close,HV.close,HV.closeL,HO.men,HV.men,HV.menL,HV.norm,HV.toC,HV.toCL])) ?_);refine aB fun K hK=>Rg ?_;have F:=@aV;refine SF ?_;refine HS rfl rfl fun K' hK'=>T6 ?_;refine D1 (cE6 ls (by omega) (fun l hl=>by have:=hlens l hl;omega)) ?_;rintro u v ⟨rfl,rfl⟩;refine AX (hK' _ _ ?_);clear hK' K';iterate 5 refine SF ?_
 refine T2 (hK _ _ _ ?_);clear hK K;refine R0 ?_;refine aG (b:=iY ls !=0) rfl (fun hb=>?_) (fun hb=>?_)
 · refine R0 ?_;refine aE (RT Tryz.results38 ?_);have hE:=hEn (by simpa using hb);refine aO [] (.slc []) (.int .i64 2) ?_ ⟨by simp only[decO,hE];rfl,by rw[hE]⟩;simp[HV.close,HV.closeL,CV.denil,CV.denilL,HV.norm,HV.toC,HV.toCL]
 refine aJ ?_;refine T0 (hK _ _ _ ?_);clear hK K;refine R0 ?_;refine aE (RT Tryz.results38 ?_);obtain⟨hE,hO⟩:=hE0 (by simpa using hb);refine aO [] (.slc (ls.map lsC)) (.int .i64 0) ?_ ⟨by rw[hO],by rw[hE]⟩;simp[HV.close,HV.closeL,CV.denil,CV.denilL,HV.norm,HV.toC,HV.toCL,aV]
end Go.Proofs.YtlldglbooaefhaaGreatDoor
namespace Go.Pl
open Go Go.Hl
def nvN (w:List aF):Int:=if 2≤w.length∧wd w 0≠bH then(bK (wd w 1)).getD (-1)else 0
def nvM (w:List aF):Int:=if 3≤w.length then(bK (wd w 2)).getD (-1)else 0
def oE (w:List aF)(n:Nd)(b:Bool):Prop:=b=(dB w).isSome∧ ∀m,dB w=some m→n=m
variable {n:Nd}{w:List aF}
theorem pB (h:dB w=none):oE w n false:=⟨by rw[h];rfl,fun m hm=>by rw[h]at hm;cases hm⟩
theorem aD1 (h:dB w=some n):oE w n true:=⟨by rw[h];rfl,fun m hm=>by rw[h]at hm;cases hm;rfl⟩
theorem iN {w:List aF}{k:Nat}(h1:w.length=k→dB w=some n)(h2:w.length≠k→dB w=none):oE w n ((w.length:Int)==(k:Int)):=by
 by_cases h:w.length=k
 · rw[show((w.length:Int)==(k:Int))=true by simp[h]];exact aD1 (h1 h)
 · rw[show((w.length:Int)==(k:Int))=false by simp;omega];exact pB (h2 h)
theorem bL2 (h:nvN w<0∨nvM w<0):dB w=none:=by
 rcases h with h|h
 ·
  unfold nvN at h;split at h
  ·
   rename_i hc;have hn:bK (wd w 1)=none:=by
    cases e:bK (wd w 1)with
    |none=>rfl
    |some n=>rw[e]at h;have:=(jZ e).1;simp at h;omega
   have h1:w.length≠1:=by omega
   simp[dB,dD,dW,hn,h1,hc.2]
  · omega
 ·
  unfold nvM at h;split at h
  ·
   rename_i hc;have hn:bK (wd w 2)=none:=by
    cases e:bK (wd w 2)with
    |none=>rfl
    |some n=>rw[e]at h;have:=(jZ e).1;simp at h;omega
   have h1:w.length≠1:=by omega
   have h2:w.length≠2:=by omega
   cases h3:bK (wd w 1)<;>simp[dB,dD,dW,hn,h1,h2,h3]
  · omega
theorem tR (hl:w.length=2)(h:wd w 0≠bH)(h0:0≤nvN w):bK (wd w 1)=some (nvN w):=by
 have e:nvN w=(bK (wd w 1)).getD (-1):=by rw[nvN,if_pos ⟨by omega,h⟩]
 cases h1:bK (wd w 1)with
 |none=>rw[e,h1]at h0;simp at h0
 |some n=>rw[e,h1];rfl
theorem bW9 (hl:w.length=3)(h:wd w 0≠bH)(h0:0≤nvN w):bK (wd w 1)=some (nvN w):=by
 have e:nvN w=(bK (wd w 1)).getD (-1):=by rw[nvN,if_pos ⟨by omega,h⟩]
 cases h1:bK (wd w 1)with
 |none=>rw[e,h1]at h0;simp at h0
 |some n=>rw[e,h1];rfl
theorem bX0 (hl:w.length=3)(h0:0≤nvM w):bK (wd w 2)=some (nvM w):=by
 have e:nvM w=(bK (wd w 2)).getD (-1):=by rw[nvM,if_pos (by omega)]
 cases h1:bK (wd w 2)with
 |none=>rw[e,h1]at h0;simp at h0
 |some n=>rw[e,h1];rfl
theorem cK3 {w:List aF}(h:wd w 0=eS):oE w ⟨2,0,0,rq0⟩ ((w.length:Int)==((1:Nat):Int)):=iN (fun hl=>by simp[dB,dD,dW,h,hl,bL,bH,bO,bT,cB,cO,cR,bY,eS,eT,bQ]) (fun hl=>by simp[dB,dD,dW,h,hl,bL,bH,bO,bT,cB,cO,cR,bY,eS,eT,bQ])
theorem cK4 {w:List aF}(h:wd w 0=eT):oE w ⟨3,0,0,rq0⟩ ((w.length:Int)==((1:Nat):Int)):=iN (fun hl=>by simp[dB,dD,dW,h,hl,bL,bH,bO,bT,cB,cO,cR,bY,eS,eT,bQ]) (fun hl=>by simp[dB,dD,dW,h,hl,bL,bH,bO,bT,cB,cO,cR,bY,eS,eT,bQ])
theorem aY6 {w:List aF}(h:wd w 0=bY):oE w ⟨1,0,0,⟨8,0,0,[]⟩⟩ ((w.length:Int)==((1:Nat):Int)):=iN (fun hl=>by simp[dB,dD,dW,h,hl,bL,bH,bO,bT,cB,cO,cR,bY,eS,eT,bQ]) (fun hl=>by simp[dB,dD,dW,h,hl,bL,bH,bO,bT,cB,cO,cR,bY,eS,eT,bQ])
theorem aY7 (h:wd w 0=bH)(hl:w.length=2):oE w ⟨1,0,0,⟨2,0,0,wd w 1⟩⟩ true:=aD1 (by simp[dB,dD,dW,h,hl,bL,bH,bO,bT,cB,cO,cR,bY,eS,eT,bQ])
theorem yX (n:Nd)(h:wd w 0=bH)(hl:w.length≠2):oE w n false:=pB (by simp[dB,dD,dW,h,hl,bL,bH,bO,bT,cB,cO,cR,bY,eS,eT,bQ])
theorem aY8 {w:List aF}(h:wd w 0=bQ)(h0:0≤nvN w):oE w ⟨4,nvN w,0,rq0⟩ ((w.length:Int)==((2:Nat):Int)):=iN (fun hl=>by have h1:=tR hl (by rw[h];decide) h0;simp[dB,dD,dW,h,hl,h1,bL,bH,bO,bT,cB,cO,cR,bY,eS,eT,bQ]) (fun hl=>by simp[dB,dD,dW,h,hl,bL,bH,bO,bT,cB,cO,cR,bY,eS,eT,bQ])
theorem aS2 {w:List aF}(h:wd w 0=bL)(h0:0≤nvN w):oE w ⟨1,0,0,⟨1,nvN w,0,[]⟩⟩ ((w.length:Int)==((2:Nat):Int)):=iN (fun hl=>by have h1:=tR hl (by rw[h];decide) h0;simp[dB,dD,dW,h,hl,h1,bL,bH,bO,bT,cB,cO,cR,bY,eS,eT,bQ]) (fun hl=>by simp[dB,dD,dW,h,hl,bL,bH,bO,bT,cB,cO,cR,bY,eS,eT,bQ])
theorem aS3 {w:List aF}(h:wd w 0=bO)(h0:0≤nvN w):oE w ⟨1,0,0,⟨3,nvN w,0,[]⟩⟩ ((w.length:Int)==((2:Nat):Int)):=iN (fun hl=>by have h1:=tR hl (by rw[h];decide) h0;simp[dB,dD,dW,h,hl,h1,bL,bH,bO,bT,cB,cO,cR,bY,eS,eT,bQ]) (fun hl=>by simp[dB,dD,dW,h,hl,bL,bH,bO,bT,cB,cO,cR,bY,eS,eT,bQ])
theorem bL3 {w:List aF}(h:wd w 0=cB)(h0:0≤nvN w):oE w ⟨1,0,0,⟨5,nvN w,0,[]⟩⟩ ((w.length:Int)==((2:Nat):Int)):=iN (fun hl=>by have h1:=tR hl (by rw[h];decide) h0;simp[dB,dD,dW,h,hl,h1,bL,bH,bO,bT,cB,cO,cR,bY,eS,eT,bQ]) (fun hl=>by simp[dB,dD,dW,h,hl,bL,bH,bO,bT,cB,cO,cR,bY,eS,eT,bQ])
theorem bX1 {w:List aF}(h:wd w 0=cO)(h0:0≤nvN w):oE w ⟨1,0,0,⟨6,nvN w,0,[]⟩⟩ ((w.length:Int)==((2:Nat):Int)):=iN (fun hl=>by have h1:=tR hl (by rw[h];decide) h0;simp[dB,dD,dW,h,hl,h1,bL,bH,bO,bT,cB,cO,cR,bY,eS,eT,bQ]) (fun hl=>by simp[dB,dD,dW,h,hl,bL,bH,bO,bT,cB,cO,cR,bY,eS,eT,bQ])
theorem bX2 {w:List aF}(h:wd w 0=cR)(h0:0≤nvN w):oE w ⟨1,0,0,⟨7,nvN w,0,[]⟩⟩ ((w.length:Int)==((2:Nat):Int)):=iN (fun hl=>by have h1:=tR hl (by rw[h];decide) h0;simp[dB,dD,dW,h,hl,h1,bL,bH,bO,bT,cB,cO,cR,bY,eS,eT,bQ]) (fun hl=>by simp[dB,dD,dW,h,hl,bL,bH,bO,bT,cB,cO,cR,bY,eS,eT,bQ])
theorem aY9 {w:List aF}(h:wd w 0=bT)(h0:0≤nvN w)(h1:0≤nvM w):oE w ⟨1,0,0,⟨4,nvN w,nvM w,[]⟩⟩ ((w.length:Int)==((3:Nat):Int)):=iN (fun hl=>by have h2:=bW9 hl (by rw[h];decide) h0;have h3:=bX0 hl h1;simp[dB,dD,dW,h,hl,h2,h3,bL,bH,bO,bT,cB,cO,cR,bY,eS,eT,bQ]) (fun hl=>by simp[dB,dD,dW,h,hl,bL,bH,bO,bT,cB,cO,cR,bY,eS,eT,bQ])
theorem bX3 (n:Nd)(h1:wd w 0≠eS)(h2:wd w 0≠eT)(h3:wd w 0≠bQ)(h4:wd w 0≠bY)(h5:wd w 0≠bH)(h6:wd w 0≠bT)(h7:wd w 0≠bL)(h8:wd w 0≠bO)(h9:wd w 0≠cB)(ha:wd w 0≠cO)(hb:wd w 0≠cR):oE w n false:=pB (by simp[dB,dD,dW, *])
end Go.Pl
namespace Go.Proofs.YtlldglbooaefhaaGreatDoor
open Go Go.Hl Go.Pl
set_option maxRecDepth 10000
set_option maxHeartbeats 16000000
theorem pC (s:aF):cF Tryz.prog 91 [.str s] (fun v=>v= .int .i64 ((bK s).getD (-1))):=by
 refine FW Tryz.func91 ?_;refine R0 ?_;refine aB fun K hK=>Rg ?_;refine S0 ?_;refine HS rfl rfl fun K' hK'=>T5 ?_;refine D1 (bW8 s) ?_;rintro u v ⟨rfl,rfl⟩;refine AX (hK' _ _ ?_);clear hK' K';iterate 5 refine S0 ?_
 refine T2 (hK _ _ _ ?_);clear hK K;refine aB fun K hK=>?_;refine R0 ?_;refine aG (b:=!(bK s).isSome) rfl (fun hb=>?_) (fun hb=>?_)
 ·
  refine R0 ?_;refine aE (RT Tryz.results91 ?_);have hn:bK s=none:=by simpa using hb
  exact aH [] (.int .i64 (-1)) rfl (by rw[hn];rfl)
 refine aJ ?_;refine T0 (hK _ _ _ ?_);clear hK K;refine R0 ?_;refine aE (RT Tryz.results91 ?_);obtain⟨n,hn⟩: ∃n,bK s=some n:=by
  cases h:bK s with
  |none=>rw[h]at hb;simp at hb
  |some n=>exact⟨n,rfl⟩
 exact aH [] (.int .i64 n) (by rw[hn];rfl) (by rw[hn];rfl)
theorem bX4 (s b:Nat)(d:TyD)(e:Operand→HV)(K:HV→Prop):gQ ⟨s,b,d,Nd.cv ⟨0,0,0,⟨0,0,0,[]⟩⟩⟩ [] e K=K (.c nd0.cv):=rfl
def NdR (w:List aF)(u v:CV):Prop:= ∃(n:Nd) (b:Bool),u=n.cv∧v= .bool b∧oE w n b
theorem bL4 (w:List aF)(h0:0<w.length):iB Tryz.prog 92 [lsC w] (NdR w):=by
 unfold lsC;have hw0:nth (w.map CV.str) 0= .str (wd w 0):=cE h0;refine FW Tryz.func92 ?_;refine R0 ?_;refine R0 ?_;refine aB fun K hK=>?_;have key: ∀(N:Int) fr ob nx,N=nvN w→Fits 0 fr ob (fin [(0,.c (.slc (w.map .str))),(2,.ptr 0 0),(4,.c (.int .i64 N)),(5,.c (.int .i64 0))]) (fob [(0,.box 40 (.c nd0.cv))]) 200→K fr ob nx:=by
  rintro N fr ob nx rfl hf;refine hK _ _ _ (bM hf ?_);clear hf hK K;refine aB fun K hK=>?_;have key2: ∀(M:Int) fr ob nx,M=nvM w→Fits 0 fr ob (fin [(0,.c (.slc (w.map .str))),(2,.ptr 0 0),(4,.c (.int .i64 (nvN w))),(5,.c (.int .i64 M))]) (fob [(0,.box 40 (.c nd0.cv))]) 300→K fr ob nx:=by
   rintro M fr ob nx rfl hf;refine hK _ _ _ (bM hf ?_);clear hf hK K;refine aB fun K hK=>?_;refine aB fun K hK=>?_;have key: ∀(b:Bool) fr ob nx,b=(decide (nvN w<0)||decide (nvM w<0))→Fits 0 fr ob (fin [(0,.c (.slc (w.map .str))),(2,.ptr 0 0),(4,.c (.int .i64 (nvN w))),(5,.c (.int .i64 (nvM w))),(31,.c (.bool b))]) (fob [(0,.box 40 (.c nd0.cv))]) 400→K fr ob nx:=by
    rintro b fr ob nx rfl hf;refine hK _ _ _ (bM hf ?_);clear hf hK K;refine aG (b:=decide (nvN w<0)||decide (nvM w<0)) rfl (fun hb=>?_) (fun hb=>?_)
    · have F:=@bX4;refine RF ?_;refine aE (RT Tryz.results92 ?_);exact aO [] nd0.cv (.bool false) (by simp[HV.close,HV.closeL,nd0,Nd.cv,rq0,Rq.cv,CV.denil,CV.denilL,HV.norm,HV.toC,HV.toCL]) ⟨nd0,false,rfl,rfl,pB (bL2 (by simpa using hb))⟩
    refine aJ ?_;refine T0 (hK _ _ _ ?_);clear hK K;refine aB fun K hK=>?_;obtain⟨hN,hM⟩:0≤nvN w∧0≤nvM w:=by
     simp only[Bool.or_eq_false_iff,decide_eq_false_iff_not]at hb;omega
    clear hb;refine R0 ?_ (e:=fun _ h_=>by simp only[↓sP,sA,tyS,simprocAttr,Int.natCast_nonneg,Int.ofNat_lt,h0,hw0,Int.natCast_pos,Int.le_refl,Int.toNat_zero];exact AX h_);refine aN ?_;refine R0 ?_;refine aG (b:=wd w 0==[97,108,108]) rfl (fun hb=>?_) (fun hb=>?_)
    ·
     have hw:wd w 0=eS:=by simpa[eS]using hb
     clear hb;refine aB fun K hK=>Rg ?_;iterate 6 refine S0 ?_
     refine T2 (hK _ _ _ ?_);clear hK K;refine aE (RT Tryz.results92 ?_);exact aO [] (Nd.cv ⟨2,0,0,rq0⟩) (.bool ((w.length:Int)==1)) (by simp[HV.close,HV.closeL,Nd.cv,rq0,Rq.cv,CV.denil,CV.denilL,HV.norm,HV.toC,HV.toCL]) ⟨_,_,rfl,rfl,cK3 hw⟩
    have nt36:wd w 0≠eS:=by simpa[eS]using hb
    clear hb;refine R0 ?_;refine aG (b:=wd w 0==[97,110,121]) rfl (fun hb=>?_) (fun hb=>?_)
    ·
     have hw:wd w 0=eT:=by simpa[eT]using hb
     clear hb;refine aB fun K hK=>Rg ?_;iterate 6 refine S0 ?_
     refine T2 (hK _ _ _ ?_);clear hK K;refine aE (RT Tryz.results92 ?_);exact aO [] (Nd.cv ⟨3,0,0,rq0⟩) (.bool ((w.length:Int)==1)) (by simp[HV.close,HV.closeL,Nd.cv,rq0,Rq.cv,CV.denil,CV.denilL,HV.norm,HV.toC,HV.toCL]) ⟨_,_,rfl,rfl,cK4 hw⟩
    have nt42:wd w 0≠eT:=by simpa[eT]using hb
    clear hb;refine R0 ?_;refine aG (b:=wd w 0==[97,116,108,101,97,115,116]) rfl (fun hb=>?_) (fun hb=>?_)
    ·
     have hw:wd w 0=bQ:=by simpa[bQ]using hb
     clear hb;refine aB fun K hK=>Rg ?_;iterate 7 refine S0 ?_
     refine T2 (hK _ _ _ ?_);clear hK K;refine aE (RT Tryz.results92 ?_);exact aO [] (Nd.cv ⟨4,nvN w,0,rq0⟩) (.bool ((w.length:Int)==2)) (by simp[HV.close,HV.closeL,Nd.cv,rq0,Rq.cv,CV.denil,CV.denilL,HV.norm,HV.toC,HV.toCL]) ⟨_,_,rfl,rfl,aY8 hw hN⟩
    have nt48:wd w 0≠bQ:=by simpa[bQ]using hb
    clear hb;refine R0 ?_;refine aG (b:=wd w 0==[115,101,116,116,108,101,100]) rfl (fun hb=>?_) (fun hb=>?_)
    ·
     have hw:wd w 0=bY:=by simpa[bY]using hb
     clear hb;refine aB fun K hK=>Rg ?_;iterate 7 refine S0 ?_
     refine T2 (hK _ _ _ ?_);clear hK K;refine aE (RT Tryz.results92 ?_);exact aO [] (Nd.cv ⟨1,0,0,⟨8,0,0,[]⟩⟩) (.bool ((w.length:Int)==1)) (by simp[HV.close,HV.closeL,Nd.cv,rq0,Rq.cv,CV.denil,CV.denilL,HV.norm,HV.toC,HV.toCL]) ⟨_,_,rfl,rfl,aY6 hw⟩
    have nt55:wd w 0≠bY:=by simpa[bY]using hb
    clear hb;refine R0 ?_;refine aG (b:=wd w 0==[99,104,97,105,110,101,100]) rfl (fun hb=>?_) (fun hb=>?_)
    ·
     have hw:wd w 0=bH:=by simpa[bH]using hb
     clear hb;refine aB fun K hK=>?_;refine R0 ?_;refine aG (b:=!((w.length:Int)==2)) rfl (fun hb=>?_) (fun hb=>?_)
     · have F:=@bX4;refine RF ?_;refine aE (RT Tryz.results92 ?_);exact aO [] nd0.cv (.bool false) (by simp[HV.close,HV.closeL,Nd.cv,nd0,rq0,Rq.cv,CV.denil,CV.denilL,HV.norm,HV.toC,HV.toCL]) ⟨nd0,false,rfl,rfl,yX _ hw (by simp at hb;omega)⟩
     refine aJ ?_;refine T0 (hK _ _ _ ?_);clear hK K;have hl2:w.length=2:=by simp at hb;omega
     have h1:1<w.length:=by omega
     clear hb;refine aB fun K hK=>Rg ?_;iterate 7 refine S0 ?_ (e:=fun _ h_=>by simp only[sH,↓sP,sA,tyS,simprocAttr,Int.natCast_nonneg,Int.ofNat_lt,Int.one_nonneg,h1,cE h1];exact AX h_)
     refine T2 (hK _ _ _ ?_);clear hK K;refine aE (RT Tryz.results92 ?_);exact aO [] (Nd.cv ⟨1,0,0,⟨2,0,0,wd w 1⟩⟩) (.bool true) (by simp[HV.close,HV.closeL,Nd.cv,rq0,Rq.cv,CV.denil,CV.denilL,HV.norm,HV.toC,HV.toCL]) ⟨_,_,rfl,rfl,aY7 hw hl2⟩
    have nt62:wd w 0≠bH:=by simpa[bH]using hb
    clear hb;refine R0 ?_;refine aG (b:=wd w 0==[114,101,98,117,105,108,116]) rfl (fun hb=>?_) (fun hb=>?_)
    ·
     have hw:wd w 0=bT:=by simpa[bT]using hb
     clear hb;refine aB fun K hK=>Rg ?_;iterate 9 refine S0 ?_
     refine T2 (hK _ _ _ ?_);clear hK K;refine aE (RT Tryz.results92 ?_);exact aO [] (Nd.cv ⟨1,0,0,⟨4,nvN w,nvM w,[]⟩⟩) (.bool ((w.length:Int)==3)) (by simp[HV.close,HV.closeL,Nd.cv,rq0,Rq.cv,CV.denil,CV.denilL,HV.norm,HV.toC,HV.toCL]) ⟨_,_,rfl,rfl,aY9 hw hN hM⟩
    have nt73:wd w 0≠bT:=by simpa[bT]using hb
    clear hb;refine R0 ?_;refine aG (b:=wd w 0==[114,101,108,101,97,115,101,100]) rfl (fun hb=>?_) (fun hb=>?_)
    ·
     have hw:wd w 0=bL:=by simpa[bL]using hb
     clear hb;refine aB fun K hK=>Rg ?_;iterate 8 refine S0 ?_
     refine T2 (hK _ _ _ ?_);clear hK K;refine aE (RT Tryz.results92 ?_);exact aO [] (Nd.cv ⟨1,0,0,⟨1,nvN w,0,[]⟩⟩) (.bool ((w.length:Int)==2)) (by simp[HV.close,HV.closeL,Nd.cv,rq0,Rq.cv,CV.denil,CV.denilL,HV.norm,HV.toC,HV.toCL]) ⟨_,_,rfl,rfl,aS2 hw hN⟩
    have nt82:wd w 0≠bL:=by simpa[bL]using hb
    clear hb;refine R0 ?_;refine aG (b:=wd w 0==[97,112,112,114,111,118,101,100]) rfl (fun hb=>?_) (fun hb=>?_)
    ·
     have hw:wd w 0=bO:=by simpa[bO]using hb
     clear hb;refine aB fun K hK=>Rg ?_;iterate 8 refine S0 ?_
     refine T2 (hK _ _ _ ?_);clear hK K;refine aE (RT Tryz.results92 ?_);exact aO [] (Nd.cv ⟨1,0,0,⟨3,nvN w,0,[]⟩⟩) (.bool ((w.length:Int)==2)) (by simp[HV.close,HV.closeL,Nd.cv,rq0,Rq.cv,CV.denil,CV.denilL,HV.norm,HV.toC,HV.toCL]) ⟨_,_,rfl,rfl,aS3 hw hN⟩
    have nt90:wd w 0≠bO:=by simpa[bO]using hb
    clear hb;refine R0 ?_;refine aG (b:=wd w 0==[108,105,115,116,101,100]) rfl (fun hb=>?_) (fun hb=>?_)
    ·
     have hw:wd w 0=cB:=by simpa[cB]using hb
     clear hb;refine aB fun K hK=>Rg ?_;iterate 8 refine S0 ?_
     refine T2 (hK _ _ _ ?_);clear hK K;refine aE (RT Tryz.results92 ?_);exact aO [] (Nd.cv ⟨1,0,0,⟨5,nvN w,0,[]⟩⟩) (.bool ((w.length:Int)==2)) (by simp[HV.close,HV.closeL,Nd.cv,rq0,Rq.cv,CV.denil,CV.denilL,HV.norm,HV.toC,HV.toCL]) ⟨_,_,rfl,rfl,bL3 hw hN⟩
    have nt98:wd w 0≠cB:=by simpa[cB]using hb
    clear hb;refine R0 ?_;refine aG (b:=wd w 0==[99,108,101,97,110]) rfl (fun hb=>?_) (fun hb=>?_)
    ·
     have hw:wd w 0=cO:=by simpa[cO]using hb
     clear hb;refine aB fun K hK=>Rg ?_;iterate 8 refine S0 ?_
     refine T2 (hK _ _ _ ?_);clear hK K;refine aE (RT Tryz.results92 ?_);exact aO [] (Nd.cv ⟨1,0,0,⟨6,nvN w,0,[]⟩⟩) (.bool ((w.length:Int)==2)) (by simp[HV.close,HV.closeL,Nd.cv,rq0,Rq.cv,CV.denil,CV.denilL,HV.norm,HV.toC,HV.toCL]) ⟨_,_,rfl,rfl,bX1 hw hN⟩
    have nt106:wd w 0≠cO:=by simpa[cO]using hb
    clear hb;refine R0 ?_;refine aG (b:=wd w 0==[102,114,101,115,104]) rfl (fun hb=>?_) (fun hb=>?_)
    ·
     have hw:wd w 0=cR:=by simpa[cR]using hb
     clear hb;refine aB fun K hK=>Rg ?_;iterate 8 refine S0 ?_
     refine T2 (hK _ _ _ ?_);clear hK K;refine aE (RT Tryz.results92 ?_);exact aO [] (Nd.cv ⟨1,0,0,⟨7,nvN w,0,[]⟩⟩) (.bool ((w.length:Int)==2)) (by simp[HV.close,HV.closeL,Nd.cv,rq0,Rq.cv,CV.denil,CV.denilL,HV.norm,HV.toC,HV.toCL]) ⟨_,_,rfl,rfl,bX2 hw hN⟩
    have nt114:wd w 0≠cR:=by simpa[cR]using hb
    clear hb;refine aJ ?_;refine T0 (hK _ _ _ ?_);clear hK K;have F:=@bX4;refine RF ?_;refine aE (RT Tryz.results92 ?_);exact aO [] nd0.cv (.bool false) (by simp[HV.close,HV.closeL,Nd.cv,nd0,rq0,Rq.cv,CV.denil,CV.denilL,HV.norm,HV.toC,HV.toCL]) ⟨nd0,false,rfl,rfl,bX3 _ nt36 nt42 nt48 nt55 nt62 nt73 nt82 nt90 nt98 nt106 nt114⟩
   refine Rg ?_;iterate 3 refine S0 ?_
   refine aD 27 rfl (fun h6_27=>?_) (fun h6_27=>?_)
   ·
    have F:=h6_27;iterate 3 refine SF ?_
    refine T4 ?_;exact key true _ _ _ (by simp only[h6_27,Bool.true_or,Bool.false_or]) (fF)
   have F:=h6_27;iterate 3 refine SF ?_
   refine aD 30 rfl (fun h6_30=>?_) (fun h6_30=>?_)
   · simp only[h6_30];refine T4 ?_;exact key true _ _ _ (by simp only[h6_27,h6_30,Bool.true_or,Bool.false_or]) (fF)
   simp only[h6_30];refine T4 ?_;exact key false _ _ _ (by simp only[h6_27,h6_30,Bool.true_or,Bool.false_or]) (fF)
  refine R0 ?_;refine aG (b:=decide ((3:Int)≤w.length)) rfl (fun hb=>?_) (fun hb=>?_)
  ·
   have h2:2<w.length:=by simp at hb;omega
   clear hb;refine Rg ?_;have F:=aI @Int.natCast_nonneg (aI @Int.ofNat_lt (aI h2 (cE h2)));iterate 3 refine SF ?_
   refine HS rfl rfl fun K' hK'=>T6 ?_;refine C1 (pC (wd w 2)) ?_;rintro u rfl;refine AX (hK' _ _ ?_);clear hK' K';refine SF ?_;refine T4 ?_;exact key2 _ _ _ _ (by rw[nvM,if_pos (by omega)]) (fF)
  refine aJ (T3 ?_);exact key2 0 _ _ _ (by rw[nvM,if_neg (by simp at hb;omega)]) (fF)
 refine aB fun K hK=>?_;have key: ∀(b:Bool) fr ob nx,b=(decide ((2:Int)≤w.length)&&!(wd w 0==bH))→Fits 0 fr ob (fin [(0,.c (.slc (w.map .str))),(2,.ptr 0 0),(4,.c (.int .i64 0)),(5,.c (.int .i64 0)),(14,.c (.bool b))]) (fob [(0,.box 40 (.c nd0.cv))]) 100→K fr ob nx:=by
  rintro b fr ob nx rfl hf;refine hK _ _ _ (bM hf ?_);clear hf hK K;refine aG (b:=decide ((2:Int)≤w.length)&&!(wd w 0==bH)) rfl (fun hb=>?_) (fun hb=>?_)
  ·
   have hb2:2≤w.length∧wd w 0≠bH:=by
    simp only[Bool.and_eq_true,decide_eq_true_eq,Bool.not_eq_true',beq_eq_false_iff_ne]at hb;exact⟨by omega,hb.2⟩
   have h1:1<w.length:=by omega
   clear hb;refine Rg ?_;iterate 3 refine S0 ?_ (e:=fun _ h_=>by simp only[sH,↓sP,sA,tyS,simprocAttr,Int.natCast_nonneg,Int.ofNat_lt,Int.one_nonneg,h1,cE h1];exact AX h_)
   refine HS rfl rfl fun K' hK'=>?_;simp only[sH,↓sP,sA,tyS,simprocAttr,Int.natCast_nonneg,Int.ofNat_lt,Int.one_nonneg,h1,cE h1];refine C1 (pC (wd w 1)) ?_;rintro u rfl;refine AX (hK' _ _ ?_);clear hK' K';refine S0 ?_ (e:=fun _ h_=>by simp only[sH,↓sP,sA,tyS,simprocAttr,Int.natCast_nonneg,Int.ofNat_lt,Int.one_nonneg,h1,cE h1];exact AX h_);refine T4 ?_;exact key _ _ _ _ (by rw[nvN,if_pos hb2]) (fF)
  refine aJ (T3 ?_);exact key 0 _ _ _ (by
   rw[nvN,if_neg];rintro⟨h1,h2⟩;simp[h2]at hb;omega) (fF)
 refine Rg ?_;iterate 4 refine S0 ?_ (e:=fun _ h_=>by simp only[sH,↓sP,sA,tyS,simprocAttr,Int.natCast_nonneg,Int.ofNat_lt,h0,hw0,Int.natCast_pos,Int.le_refl,Int.toNat_zero];exact AX h_)
 refine aD 8 rfl (fun h2_8=>?_) (fun h2_8=>?_)
 ·
  iterate 5 refine S0 ?_ (e:=fun _ h_=>by simp only[sH,↓sP,sA,tyS,simprocAttr,Int.natCast_nonneg,Int.ofNat_lt,h0,hw0,Int.natCast_pos,Int.le_refl,Int.toNat_zero,h2_8];exact AX h_)
  refine aD 13 rfl (fun h2_13=>?_) (fun h2_13=>?_)
  · simp only[h2_13];refine T4 ?_;exact key true _ _ _ (by simp only[bH,h2_8,h2_13,Bool.true_and,Bool.false_and]) (aM (by omega) (by simp[aZ,fin_at,finA_at,upd_at,HV.men,HV.menL,HV.norm,HV.toC,HV.toCL,nd0,Nd.cv,rq0,Rq.cv]) (by simp[bA,fob_at,upd_at,none0_at,bX,HO.men,HV.men,HV.menL,HV.norm,HV.toC,HV.toCL,nd0,Nd.cv,rq0,Rq.cv]))
  simp only[h2_13];refine T4 ?_;exact key false _ _ _ (by simp only[bH,h2_8,h2_13,Bool.true_and,Bool.false_and]) (aM (by omega) (by simp[aZ,fin_at,finA_at,upd_at,HV.men,HV.menL,HV.norm,HV.toC,HV.toCL,nd0,Nd.cv,rq0,Rq.cv]) (by simp[bA,fob_at,upd_at,none0_at,bX,HO.men,HV.men,HV.menL,HV.norm,HV.toC,HV.toCL,nd0,Nd.cv,rq0,Rq.cv]))
 iterate 5 refine S0 ?_ (e:=fun _ h_=>by simp only[sH,↓sP,sA,tyS,simprocAttr,Int.natCast_nonneg,Int.ofNat_lt,h0,hw0,Int.natCast_pos,Int.le_refl,Int.toNat_zero,h2_8];exact AX h_)
 refine T4 ?_;exact key false _ _ _ (by simp only[bH,h2_8,Bool.true_and,Bool.false_and]) (aM (by omega) (by simp[aZ,fin_at,finA_at,upd_at,HV.men,HV.menL,HV.norm,HV.toC,HV.toCL,nd0,Nd.cv,rq0,Rq.cv]) (by simp[bA,fob_at,upd_at,none0_at,bX,HO.men,HV.men,HV.menL,HV.norm,HV.toC,HV.toCL,nd0,Nd.cv,rq0,Rq.cv]))
theorem bL5 (l:List Nd)(hl:l.length<2^40):aG2 Tryz.prog 76 [(22,.slc (l.map Nd.cv))] (bwL l):=by
 refine aA6 Tryz.func76 rfl (by kernel_rfl) (Nat.le_of_ble_eq_true rfl) rfl fun L J hS hY=>?_;have e0:kG [(22,CV.slc (l.map Nd.cv))]=fob [(0,.box 22 (.c (.slc (l.map Nd.cv))))]:=by
  funext i
  match i with
  |0=>rfl
  |i+1=>simp[kG,fob,upd]
 have e1:iD (List.range [((22:Nat),CV.slc (l.map Nd.cv))].length)=[.ptr 0 0]:=rfl;rw[e0,e1];refine fO fun K hK=>nR hS rfl (aK (by kernel_rfl) ?_);simp only[sR,simprocAttr];iterate 4 refine S0 ?_ (e:=fun _ h_=>by simp only[sH,↓sP,sA,tyS,simprocAttr,rI,cQ ((l.length:Int)-1) (by omega),List.length_map];exact AX h_)
 simp only[sE,↓reduceIte,simprocAttr,rI];refine hK _ _ _ _ _ ?_;clear hK K;refine oV ?_;refine aO2 (α:={j:Nat//j≤l.length}) hS (fun j=>(fin [(0,.opq (.func (.yield L) #[] #[])),(1,.ptr 0 0),(3,.c (.int .i64 ((l.length:Int)-1-j.1)))],fob [(0,.box 22 (.c (.slc (l.map Nd.cv))))])) (fun j=>j.1) 100 (fun j=>l.length-j.1) ⟨0,Nat.zero_le _⟩ rfl (fF) rfl ?_;rintro⟨j,hj⟩;refine fO fun K hK=>?_;refine fO fun K1 hK1=>nR hS rfl (aK (by kernel_rfl) ?_);simp only[sR,simprocAttr];have F:=rI;iterate 2 refine SF ?_
 simp only[sE,↓reduceIte,simprocAttr,rI];refine hK1 _ _ _ _ _ ?_;clear hK1 K1;refine jY (b:=decide ((0:Int)≤(l.length:Int)-1-j)) rfl (fun hb=>?_) (fun hb=>?_)
 ·
  have hlt:j<l.length:=by simp at hb;omega
  have hi2:l.length-1-j<l.length:=by omega
  have hxl:j<(bwL l).length:=by rw[sD];exact hlt
  have hx:=bV1 hxl hi2;have hcast:(l.length:Int)-1-j=((l.length-1-j:Nat):Int):=by omega
  have hw1:IntKind.i64.wrap (((l.length-1-j:Nat):Int)-1)=(l.length:Int)-1-((j:Int)+1):=by rw[cQ _ (by omega)];omega
  refine nS ?_;simp only[sE,↓reduceIte,simprocAttr,rI];refine hK _ _ _ _ _ ?_;clear hK K;refine fO fun K hK=>?_;refine oV ?_;refine fO fun K1 hK1=>tF (l:=L) 6 hS hY rfl (by kernel_rfl) (by decide) ?_;simp only[sR,List.range',simprocAttr];have F:=aI rI (aI hcast (aI @List.length_map.{0,0} (aI @Int.natCast_nonneg (aI @Int.ofNat_lt (aI hi2 (nM hi2))))));iterate 6 refine SF ?_
  rw[hlex];refine⟨_,_,_,hxl,rfl,rfl,rfl,rfl,rfl,?_,?_,?_⟩
  · rw[hx];simp only[hcast];rfl
  ·
   simp only[sR,List.range',simprocAttr];have F:=rI;refine SF ?_;simp only[sE,↓reduceIte,simprocAttr,rI];refine hK1 _ _ _ _ _ ?_;clear hK1 K1;refine jY (b:=false) rfl (fun hb=>by cases hb) (fun _=>?_);refine nS ?_;simp only[sE,↓reduceIte,simprocAttr,rI];refine hK _ _ _ _ _ ?_;clear hK K;refine nR hS rfl (aK (by kernel_rfl) ?_);simp only[sR,simprocAttr];have F:=aI rI (aI hcast hw1);iterate 3 refine SF ?_
   simp only[sE,↓reduceIte,simprocAttr,rI];refine⟨⟨j+1,hlt⟩,fF,trivial,rfl,?_⟩;show l.length-(j+1)<l.length-j;omega
  simp only[sR,List.range',simprocAttr];have F:=rI;refine SF ?_;simp only[sE,↓reduceIte,simprocAttr,rI];refine hK1 _ _ _ _ _ ?_;clear hK1 K1;refine jY (b:=true) rfl (fun _=>?_) (fun hb=>by cases hb);refine bC2 ?_;simp only[sE,↓reduceIte,simprocAttr,rI];exact⟨by simp,fun h=>by cases h⟩
 have hji:j=l.length:=by simp at hb;omega
 refine aO1 ?_;simp only[sE,↓reduceIte,simprocAttr,rI];exact⟨by simp,fun _=>by rw[sD];exact hji⟩
theorem cE8 (l:List Nd):bC3 Tryz.prog 46 76 [.slc (l.map Nd.cv)] [(22,.slc (l.map Nd.cv))]:=by
 refine FW Tryz.func46 ?_;refine R0 ?_;refine R0 ?_;refine aE (RT Tryz.results46 ?_);refine tH (gf:=76) (bs:=[(22,.slc (l.map Nd.cv))]) (ids:=[0]) rfl (by simp) (by decide) ?_ ?_
 ·
  intro j x hx
  match j,hx with
  |0,hx=>cases hx;rfl
 intro x hx;simp only[List.mem_cons,List.not_mem_nil,or_false]at hx;subst hx;exact congrArg CV.slc (denilL_Nd l)
theorem aS4 (n:Nd)(L:List Bool)(lo m:Nat)(hl:L.length<2^40)(h0:0<L.length)(hlo:lo≤m)(hm:m≤L.length):
  HGe Tryz.prog 47 [.c n.cv,.osl 0 L.length lo 1 m] [.row 4 1 (L.map bC)] (fun r os'=>r= .c (.bool (lM n ((L.drop lo).take (m-lo))))∧os'=[.row 4 1 (L.map bC)]):=by
 obtain⟨V,hV⟩: ∃V,V=(L.drop lo).take (m-lo):=⟨_,rfl⟩;have hVl:V.length=m-lo:=by rw[hV];simp;omega
 rw[←hV];have hrd:List.take (m-lo) (List.drop lo (L.map bC))=V.map bC:=by rw[hV,List.map_take,List.map_drop]
 refine cL (args:=[.c n.cv,.osl 0 L.length lo 1 m]) Tryz.func47 rfl (by kernel_rfl) (gJ rfl (by simp[fA,HO.men]) (by simp[HV.menL,HV.men])) (Nat.le_of_ble_eq_true rfl) ?_;have e0:lst [.row 4 1 (L.map bC)]=fob [(0,.row 4 1 (L.map bC))]:=by
  funext i
  match i with
  |0=>rfl
  |i+1=>simp[lst,fob,upd]
 show Hw _ _ 1 _ _ _ (lst _) 1;rw[e0];refine R0 ?_;refine R0 ?_;refine aB fun K hK=>?_;refine R0 ?_ (e:=fun _ h_=>by simp only[↓sP,sA,tyS,simprocAttr,hrd,List.length_map,h0,hlo,hm];exact AX h_);refine aN ?_;refine bR (α:={i:Nat//i≤V.length}) (fun i=>(fin [(1,.osl 0 L.length lo 1 m),(2,.ptr 1 0),(5,.c (.int .i64 (cnt (V.take i.1):Nat))),(8,.osl 0 L.length lo 1 m),(9,.c (.int .i64 V.length)),(10,.c (.int .i64 i.1))],fob [(0,.row 4 1 (L.map bC)),(1,.box 40 (.c n.cv))])) 100 (fun i=>V.length-i.1) ⟨0,by omega⟩ (aM (by omega) (by simp[aZ,fin_at,finA_at,upd_at,HV.men,HV.menL,HV.norm,HV.toC,HV.toCL,cnt]) (by simp[bA,fob_at,upd_at,none0_at,bX,HO.men,HV.men,HV.menL,HV.norm,HV.toC,HV.toCL,cnt])) ?_;rintro⟨i,hi⟩;have hcn:cnt (V.take i)≤i:=by have:=cJ3 (V.take i);simp at this;omega
 refine R0 ?_;refine aB fun K hK=>?_;refine aG (b:=decide ((i:Int)<V.length)) rfl (fun hb=>?_) (fun hb=>?_)
 ·
  have hlt:i<V.length:=by simpa using hb
  have hct:=pQ (l:=V) (k:=i) hlt;have hw3:IntKind.i64.wrap ((cnt (V.take i):Int)+1)=((cnt (V.take i)+1:Nat):Int):=by rw[cQ _ (by omega)];rfl
  have hli:lo+i<L.length:=by omega
  have hvi:L[lo+i]=V[i]:=by simp[hV]
  have hli2:lo+i<(L.map bC).length:=by simpa using hli
  have hml:i<m-lo:=by omega
  clear hb;refine aJ ?_;refine T0 (hK _ _ _ ?_);clear hK K;refine aB fun K hK=>?_;refine aN ?_;refine R0 ?_ (e:=fun _ h_=>by simp only[↓sP,sA,tyS,simprocAttr,List.length_map,Int.natCast_nonneg,Int.ofNat_lt,h0,hm,hml,hli,bS hli,bC];exact AX h_);refine R0 ?_;refine aG (b:=L[lo+i]) rfl (fun hb=>?_) (fun hb=>?_)
  · rw[hvi]at hb;rw[if_pos (by simpa[hlt]using hb)]at hct;refine aK (by kernel_rfl) ?_;refine TQ hw3 ?_;refine AX (hK _ _ _ ?_);clear hK K;refine aK (by kernel_rfl) ?_;simp only[↓sP,sA,tyS,simprocAttr,cQ ((i:Int)+1) (by omega)];refine⟨⟨i+1,hlt⟩,aM (by omega) (by simp[aZ,fin_at,finA_at,upd_at,HV.men,HV.menL,HV.norm,HV.toC,HV.toCL,hct]) (by simp[bA,fob_at,upd_at,none0_at,bX,HO.men,HV.men,HV.menL,HV.norm,HV.toC,HV.toCL,hct]),?_⟩;show V.length-(i+1)<V.length-i;omega
  rw[hvi]at hb;rw[if_neg (by simp[hlt,hb])]at hct;refine aJ ?_;refine T0 (hK _ _ _ ?_);clear hK K;refine aK (by kernel_rfl) ?_;simp only[↓sP,sA,tyS,simprocAttr,cQ ((i:Int)+1) (by omega)];refine⟨⟨i+1,hlt⟩,aM (by omega) (by simp[aZ,fin_at,finA_at,upd_at,HV.men,HV.menL,HV.norm,HV.toC,HV.toCL,hct]) (by simp[bA,fob_at,upd_at,none0_at,bX,HO.men,HV.men,HV.menL,HV.norm,HV.toC,HV.toCL,hct]),?_⟩;show V.length-(i+1)<V.length-i;omega
 refine bJ (T3 ?_);clear hK K;refine AX (hK _ _ _ ?_);clear hK K;refine aB fun K hK=>?_;have hei:i=V.length:=by simp only[decide_eq_false_iff_not]at hb;omega
 subst hei;rw[List.take_length]at hcn⊢;clear hb;refine R0 ?_;refine aN ?_;refine R0 ?_;refine aG (b:=(n.k==2)) rfl (fun hb=>?_) (fun hb=>?_)
 ·
  refine aB fun K hK=>Rg ?_;iterate 5 refine S0 ?_ (e:=fun _ h_=>by simp only[sH,↓sP,sA,tyS,simprocAttr,hrd,List.length_map,h0,hlo,hm];exact AX h_)
  refine T2 (hK _ _ _ ?_);clear hK K;refine aE (RT Tryz.results47 ?_);have h2:n.k=2:=by simpa using hb
  exact eN [] [] (.c (.bool ((cnt V:Int)==V.length))) [.row 4 1 (L.map bC)] rfl (by simp[HV.men]) ⟨⟨trivial,by simp,_,rfl,rfl⟩,trivial⟩ rfl List.nodup_nil (by simp) (by simp) ⟨by rw[lM,if_pos h2];congr 2;rw[Bool.eq_iff_iff];simp;omega,rfl⟩
 have h2:n.k≠2:=by simpa using hb
 refine R0 ?_;refine aG (b:=(n.k==3)) rfl (fun hb=>?_) (fun hb=>?_)
 ·
  refine R0 ?_;refine aE (RT Tryz.results47 ?_);have h3:n.k=3:=by simpa using hb
  exact eN [] [] (.c (.bool (decide ((1:Int)≤cnt V)))) [.row 4 1 (L.map bC)] rfl (by simp[HV.men]) ⟨⟨trivial,by simp,_,rfl,rfl⟩,trivial⟩ rfl List.nodup_nil (by simp) (by simp) ⟨by rw[lM,if_neg h2,if_pos h3];congr 2;rw[Bool.eq_iff_iff];simp;omega,rfl⟩
 refine aJ ?_;refine T0 (hK _ _ _ ?_);clear hK K;refine aB fun K hK=>Rg ?_;iterate 5 refine S0 ?_
 refine T2 (hK _ _ _ ?_);clear hK K;refine aE (RT Tryz.results47 ?_);have h3:n.k≠3:=by simpa using hb
 exact eN [] [] (.c (.bool (decide (n.n≤cnt V)))) [.row 4 1 (L.map bC)] rfl (by simp[HV.men]) ⟨⟨trivial,by simp,_,rfl,rfl⟩,trivial⟩ rfl List.nodup_nil (by simp) (by simp) ⟨by rw[lM,if_neg h2,if_neg h3],rfl⟩
end Go.Proofs.YtlldglbooaefhaaGreatDoor
namespace Go.Pl
open Go Go.Hl
def lS (w:List Bool)(m:Nat)(b:Bool):List Bool:=w.take m++[b]++w.drop (m+1)
variable {b:Bool}{m:Nat}{w:List Bool}
theorem lT (h:m+1≤w.length):(lS w m b).length=w.length:=by simp[lS];omega
theorem aD2 :lS w w.length b=w++[b]:=by simp[lS]
theorem aD3 (h:m≤w.length):(lS w m b).take (m+1)=w.take m++[b]:=by grind[lS,List.take_of_length_le]
def aZ0 (l:List Nd)(tr:List Bool)(p:Nat)(s:List Bool×Nat):List Bool×Nat:=
 if(l.getD p nd0).k=1 then(lS s.1 s.2 (tr.getD (lv (l.take p)) false),s.2+1)
 else(lS s.1 (s.2-(l.getD p nd0).c.toNat) (lM (l.getD p nd0) ((s.1.drop (s.2-(l.getD p nd0).c.toNat)).take (l.getD p nd0).c.toNat)),s.2-(l.getD p nd0).c.toNat+1)
def cP (l:List Nd)(tr:List Bool):Nat→List Bool×Nat
 |0=>([],0)
 |i+1=>aZ0 l tr (l.length-1-i) (cP l tr i)
structure EvOk (l:List Nd)(tr:List Bool)(i:Nat):Prop where
 le:i≤l.length
 m:(cP l tr i).2=(evS (lv l) tr (l.drop (l.length-i))).length
 row:(cP l tr i).1.take (cP l tr i).2=(evS (lv l) tr (l.drop (l.length-i))).reverse
 fit:(cP l tr i).2≤(cP l tr i).1.length
 small:(cP l tr i).1.length≤i
theorem EvOk.zero (l:List Nd)(tr:List Bool):EvOk l tr 0:=⟨by omega,by simp[cP,evS],by simp[cP,evS],by simp[cP],by simp[cP]⟩
theorem yY (n:Nd)(l:List Bool):lM n l.reverse=lM n l:=by simp only[lM,aP2,List.length_reverse]
variable {c:Nat}{E:List Bool}
theorem bX5 :E.reverse.take (E.length-c)=(E.drop c).reverse:=by rw[List.reverse_drop]
theorem bX6 (h:c≤E.length):E.reverse.drop (E.length-c)=(E.take c).reverse:=by rw[List.reverse_take]
variable {i:Nat}{l:List Nd}
theorem EvOk.at_ {tr:List Bool}(hi:i<l.length):l.drop (l.length-(i+1))=l[l.length-1-i]'(by omega)::l.drop (l.length-i):=by grind[List.drop_eq_getElem_cons]
variable {tr:List Bool}
theorem EvOk.leaf (h:EvOk l tr i)(hi:i<l.length)(hk:(l[l.length-1-i]'(by omega)).k=1):
  EvOk l tr (i+1)∧cP l tr (i+1)=(lS (cP l tr i).1 (cP l tr i).2 (tr.getD (lv (l.take (l.length-1-i))) false),(cP l tr i).2+1):=by
 have hp:l.length-1-i<l.length:=by omega
 have hg:l.getD (l.length-1-i) nd0=l[l.length-1-i]:=by simp[hp]
 have e:cP l tr (i+1)=(lS (cP l tr i).1 (cP l tr i).2 (tr.getD (lv (l.take (l.length-1-i))) false),(cP l tr i).2+1):=by
  simp only[cP,aZ0,hg,if_pos hk]
 have hT:=aG6 l (l.length-1-i);have hd:=EvOk.at_ (tr:=tr) hi;rw[show l.length-(i+1)=l.length-1-i from by omega]at hd;have hE:evS (lv l) tr (l.drop (l.length-(i+1)))=tr.getD (lv (l.take (l.length-1-i))) false::evS (lv l) tr (l.drop (l.length-i)):=by
  rw[show l.length-(i+1)=l.length-1-i from by omega,hd,evS,if_pos hk,←hd];congr 2;omega
 refine⟨⟨hi,?_,?_,?_,?_⟩,e⟩
 · rw[e,hE];simp[h.m]
 · rw[e,hE];simp only[List.reverse_cons];rw[aD3 h.fit,h.row]
 · rw[e];have:=h.fit;simp[lS];omega
 · rw[e];have:=h.fit;have:=h.small;simp[lS];omega
theorem EvOk.inner (ht:IsTree l)(h:EvOk l tr i)(hi:i<l.length)(hk:(l[l.length-1-i]'(by omega)).k≠1):
  (l[l.length-1-i]'(by omega)).c.toNat≤(cP l tr i).2∧EvOk l tr (i+1)∧
  cP l tr (i+1)=(lS (cP l tr i).1 ((cP l tr i).2-(l[l.length-1-i]'(by omega)).c.toNat) (lM (l[l.length-1-i]'(by omega)) (((cP l tr i).1.drop ((cP l tr i).2-(l[l.length-1-i]'(by omega)).c.toNat)).take (l[l.length-1-i]'(by omega)).c.toNat)),(cP l tr i).2-(l[l.length-1-i]'(by omega)).c.toNat+1):=by
 have hp:l.length-1-i<l.length:=by omega
 have hg:l.getD (l.length-1-i) nd0=l[l.length-1-i]:=by simp[hp]
 have e:cP l tr (i+1)=(lS (cP l tr i).1 ((cP l tr i).2-(l[l.length-1-i]'(by omega)).c.toNat) (lM (l[l.length-1-i]'(by omega)) (((cP l tr i).1.drop ((cP l tr i).2-(l[l.length-1-i]'(by omega)).c.toNat)).take (l[l.length-1-i]'(by omega)).c.toNat)),(cP l tr i).2-(l[l.length-1-i]'(by omega)).c.toNat+1):=by
  simp only[cP,aZ0,hg,if_neg hk]
 have hkl:=bR3 ht (tr:=tr) hp;rw[show l.length-1-i+1=l.length-i from by omega]at hkl;obtain⟨_,_,_,c4⟩:=eI (ht.node _ (List.getElem_mem hp));have c5:=c4 hk;have c6:1≤l[l.length-1-i].c.toNat:=by omega
 have hd:=EvOk.at_ (tr:=tr) hi;have hm:=h.m;have hr:=h.row;have hf:=h.fit;have hs:=h.small;have hE:evS (lv l) tr (l.drop (l.length-(i+1)))=lM l[l.length-1-i] ((evS (lv l) tr (l.drop (l.length-i))).take l[l.length-1-i].c.toNat)::(evS (lv l) tr (l.drop (l.length-i))).drop l[l.length-1-i].c.toNat:=by
  rw[hd,evS,if_neg hk]
 generalize evS (lv l) tr (l.drop (l.length-i))=E at hm hr hkl hE;generalize l[l.length-1-i].c.toNat=c at*;have h1:(cP l tr i).1.take ((cP l tr i).2-c)=(E.drop c).reverse:=by
  rw[←bX5,←hr,List.take_take,hm,Nat.min_eq_left (by omega)]
 have h2:((cP l tr i).1.drop ((cP l tr i).2-c)).take c=(E.take c).reverse:=by
  rw[←bX6 hkl,←hr,List.drop_take,hm];congr 1;omega
 refine⟨by omega,⟨hi,?_,?_,?_,?_⟩,e⟩
 · rw[e,hE];simp only[List.length_cons,List.length_drop];omega
 · rw[e,hE];simp only[List.reverse_cons];rw[aD3 (by omega),h1,h2,yY]
 · rw[e];simp only;rw[lT (by omega)];omega
 · rw[e];simp only;rw[lT (by omega)];omega
theorem EvOk.fin (ht:IsTree l)(h:EvOk l tr l.length):(cP l tr l.length).2=1∧ ∃h0:0<(cP l tr l.length).1.length,xK l tr=(cP l tr l.length).1[0]:=by
 have hl:=aG5 (T:=lv l) (tr:=tr) l 1 ht.node ht.skip;have hm:=h.m;have hr:=h.row;have hf:=h.fit;rw[Nat.sub_self,List.drop_zero]at hm hr;rw[hl]at hm;have h0:0<(cP l tr l.length).1.length:=by omega
 refine⟨hm,h0,?_⟩;have ht':=bT2 ht;obtain⟨x,hx⟩: ∃x,evS (lv l) tr l=[x]:=by
  match hE:evS (lv l) tr l,hl with
  |[x],_=>exact⟨x,rfl⟩
 rw[hx,hm]at hr;rw[xK,ht',hx];have:(cP l tr l.length).1[0]=x:=by
  have:=congrArg (·.head?) hr;simpa[List.head?_take,List.head?_eq_getElem?,h0]using this
 rw[this];rfl
end Go.Pl
