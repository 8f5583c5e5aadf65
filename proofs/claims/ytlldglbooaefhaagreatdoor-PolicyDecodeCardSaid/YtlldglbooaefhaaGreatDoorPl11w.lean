/- Digests and root documents out of words (1.4, 11.2), in plain Lean. By an AI agent. -/
import Derived.Test.YtlldglbooaefhaaGreatDoorHzU1
import Derived.Test.YtlldglbooaefhaaGreatDoorHlTlaw
import Derived.Test.YtlldglbooaefhaaGreatDoorHlIt
import Derived.Test.YtlldglbooaefhaaGreatDoorHlZb
import Derived.Lib.ItoaLen
set_option linter.unusedSimpArgs false
set_option linter.unusedVariables false
set_option linter.defProp false
namespace Go.Proofs.YtlldglbooaefhaaGreatDoor
open Go Go.Hl Go.Pl
set_option maxRecDepth 10000
set_option maxHeartbeats 16000000
theorem aO4 (l:List aF)(hl:l.length<2^40):cF Tryz.prog 79 [.slc (l.map .str)] (fun v=>v= .int .i64 (mE l)):=by
 refine FW Tryz.func79 ?_;refine R0 ?_;refine aB fun K hK=>?_;refine aN ?_;refine aB fun K hK=>Rg ?_;iterate 4 refine S0 ?_
 refine T2 (hK _ _ _ ?_);clear hK K;refine aG (b:=(l.length:Int)==0) rfl (fun hb=>?_) (fun hb=>?_)
 · refine R0 ?_;refine aE (RT Tryz.results79 ?_);exact aH [] (.int .i64 1) rfl (by rw[mE,if_pos (by simp at hb;simp[hb])])
 have hn0:l.length≠0:=by simp at hb;simp[hb]
 clear hb;refine aB fun K hK=>Rg ?_;iterate 4 refine S0 ?_
 refine T2 (hK _ _ _ ?_);clear hK K;refine aG (b:=decide ((120:Int)<l.length)) rfl (fun hb=>?_) (fun hb=>?_)
 · refine R0 ?_;refine aE (RT Tryz.results79 ?_);exact aH [] (.int .i64 3) rfl (by rw[mE,if_neg hn0,if_pos (by simp at hb;omega)])
 refine aJ ?_;refine T0 (hK _ _ _ ?_);clear hK K;refine aB fun K hK=>?_;have hn1:l.length≤120:=by simp at hb;omega
 clear hb;refine R0 ?_;refine aN ?_;refine bR (α:={i:Nat//i≤l.length∧ ∀x∈l.take i,decide (32768<x.length)=false}) (fun i=>(fin [(13,.c (.slc (l.map .str))),(14,.c (.int .i64 l.length)),(15,.c (.int .i64 i.1))],fob [])) 100 (fun i=>l.length-i.1) ⟨0,by omega,by simp⟩ (fF) ?_;rintro⟨i,hi,h0⟩;refine R0 ?_;refine aB fun K hK=>?_;refine aG (b:=decide ((i:Int)<l.length)) rfl (fun hb=>?_) (fun hb=>?_)
 ·
  have hlt:i<l.length:=by simpa using hb
  clear hb;refine aJ ?_;refine T0 (hK _ _ _ ?_);clear hK K;refine aB fun K hK=>?_;refine aN ?_;have F:=aI @Int.natCast_nonneg (aI @Int.ofNat_lt (aI hlt (nM hlt)));refine RF ?_;refine R0 ?_;refine aG (b:=decide ((32768:Int)<l[i].length)) rfl (fun hb=>?_) (fun hb=>?_)
  · refine R0 ?_;refine aE (RT Tryz.results79 ?_);exact aH [] (.int .i64 3) rfl (by rw[mE,if_neg hn0,if_neg (by omega),if_pos];simp only[List.any_eq_true,decide_eq_true_eq];exact⟨_,List.getElem_mem hlt,by simp at hb;omega⟩)
  refine aJ ?_;refine T0 (hK _ _ _ ?_);clear hK K;refine aK (by kernel_rfl) ?_;refine TQ (iF i) ?_;have hb2:decide (32768<l[i].length)=false:=by simp at hb⊢;omega
  refine⟨⟨i+1,hlt,bH9 (p:=fun x=>decide (32768<x.length)) hlt hb2 h0⟩,fF,?_⟩;show l.length-(i+1)<l.length-i;omega
 refine bJ (T3 ?_);clear hK K;refine AX (hK _ _ _ ?_);clear hK K;refine R0 ?_;refine aE (RT Tryz.results79 ?_);have hei:i=l.length:=by simp at hb;omega
 subst hei;rw[List.take_length]at h0;exact aH [] (.int .i64 0) rfl (by rw[mE,if_neg hn0,if_neg (by omega),if_neg];simp only[List.any_eq_true,not_exists,not_and];intro x hx;simp[h0 x hx])
theorem cJ1 (ls:List (List aF))(h0:ls.length<2^40)(h1: ∀l∈ls,l.length<2^40):iB Tryz.prog 53 [.slc (ls.map fun l=> .slc (l.map .str))] (fun u v=>u= .slc ((pX ls).map dM)∧v= .int .i64 (iY ls)):=by
 refine FW Tryz.func53 ?_;refine R0 ?_;refine aB fun K hK=>?_;refine R0 ?_;refine aG (b:=decide ((1000:Int)<ls.length)) rfl (fun hb=>?_) (fun hb=>?_)
 · refine R0 ?_;refine aE (RT Tryz.results53 ?_);have hE:=tA (ls:=ls) (by simp at hb;omega);refine aO [] (.slc []) (.int .i64 3) ?_ ⟨by rw[iR (by rw[hE];decide)];rfl,by rw[hE]⟩;simp[HV.close,HV.closeL,CV.denil,CV.denilL,HV.norm,HV.toC,HV.toCL]
 refine aJ ?_;refine T0 (hK _ _ _ ?_);clear hK K;refine aB fun K hK=>?_;have hn:ls.length≤1000:=by simp at hb;omega
 clear hb;refine R0 ?_;refine aN ?_;refine bR (α:={i:Nat//i≤ls.length∧ ∀x∈ls.take i,okL x=true}) (fun i=>(fin [(0,.c (.slc (ls.map fun l=> .slc (l.map .str)))),(20,.c (.slc (ls.map fun l=> .slc (l.map .str)))),(21,.c (.int .i64 ls.length)),(22,.c (.int .i64 i.1))],fob [])) 100 (fun i=>ls.length-i.1) ⟨0,by omega,by simp⟩ (fF) ?_;rintro⟨i,hi,hk⟩;refine R0 ?_;refine aB fun K hK=>?_;refine aG (b:=decide ((i:Int)<ls.length)) rfl (fun hb=>?_) (fun hb=>?_)
 ·
  have hlt:i<ls.length:=by simpa using hb
  clear hb;have hl1:=h1 ls[i] (List.getElem_mem hlt);refine aJ ?_;refine T0 (hK _ _ _ ?_);clear hK K;refine aB fun K hK=>?_;refine aN ?_;have F:=aI @Int.natCast_nonneg (aI @Int.ofNat_lt (aI hlt (nM hlt)));refine RF ?_;refine aB fun K hK=>Rg ?_;refine S0 ?_;refine HS rfl rfl fun K' hK'=>T5 ?_;refine C1 (aO4 ls[i] hl1) ?_;rintro u rfl;refine AX (hK' _ _ ?_);clear hK' K';refine S0 ?_;refine T2 (hK _ _ _ ?_);clear hK K;refine R0 ?_;refine aG (b:=mE ls[i] !=0) rfl (fun hb=>?_) (fun hb=>?_)
  · refine R0 ?_;refine aE (RT Tryz.results53 ?_);have hE:=rE hn hlt hk (by simpa[okL]using hb);refine aO [] (.slc []) (.int .i64 (mE ls[i])) ?_ ⟨by rw[iR (by rw[hE];simpa using hb)];rfl,by rw[hE]⟩;simp[HV.close,HV.closeL,CV.denil,CV.denilL,HV.norm,HV.toC,HV.toCL]
  refine aJ ?_;refine T0 (hK _ _ _ ?_);clear hK K;refine aK (by kernel_rfl) ?_;refine TQ (iF i) ?_;refine⟨⟨i+1,hlt,?_⟩,fF,?_⟩
  ·
   intro x hx;rw[List.take_succ_eq_append_getElem hlt,List.mem_append,List.mem_singleton]at hx;rcases hx with hx|rfl
   · exact hk x hx
   simpa[okL]using hb
  show ls.length-(i+1)<ls.length-i;omega
 have hei:i=ls.length:=by simp at hb;omega
 subst hei;clear hb;rw[List.take_length]at hk;have hne: ∀l∈ls,l≠[]:=fun l hl=>((kM l).1 (hk l hl)).1;have hsd:=bB3 hk;have hdl:=rC hne;have hE:=vJ hn hk;have hst: ∀j,sumD (ls.take j)≤sumD ls:=fun j=>aF6 ls j;have hdt: ∀j,(fX (ls.take j)).length≤sumD ls:=fun j=>by rw[rC fun l hl=>hne l (List.mem_of_mem_take hl)];exact hst j
 refine bJ (T3 ?_);clear hK K;refine AX (hK _ _ _ ?_);clear hK K;refine R0 ?_;refine aB fun K hK=>?_;refine R0 ?_;refine aN ?_;refine bR (α:={i:Nat//i≤ls.length}) (fun i=>(fin [(0,.c (.slc (ls.map fun l=> .slc (l.map .str)))),(7,.c (.int .i64 (sumD (ls.take i.1):Nat))),(32,.c (.slc (ls.map fun l=> .slc (l.map .str)))),(33,.c (.int .i64 ls.length)),(34,.c (.int .i64 i.1))],fob [])) 200 (fun i=>ls.length-i.1) ⟨0,by omega⟩ (fF) ?_;rintro⟨i,hi⟩;refine R0 ?_;refine aB fun K hK=>?_;refine aG (b:=decide ((i:Int)<ls.length)) rfl (fun hb=>?_) (fun hb=>?_)
 ·
  have hlt:i<ls.length:=by simpa using hb
  clear hb;have hst1:=bH1 hlt;have hst2:=hst (i+1);obtain⟨l,hl⟩: ∃l,l=ls[i]:=⟨_,rfl⟩;obtain⟨hl0,hl1,hl2⟩:=(kM l).1 (hk l (by rw[hl];exact List.getElem_mem hlt));have hln:nth (ls.map fun l=>CV.slc (l.map .str)) i= .slc (l.map .str):=by rw[bS hlt,hl]
  rw[←hl]at hst1;refine aJ ?_;refine T0 (hK _ _ _ ?_);clear hK K;refine aB fun K hK=>?_;refine aN ?_;have F:=aI @Int.natCast_nonneg (aI @Int.ofNat_lt (aI hlt hln));refine RF ?_;refine R0 ?_;refine aN ?_;refine bR (α:={i:Nat//i≤l.length}) (fun k=>(fin [(0,.c (.slc (ls.map fun l=> .slc (l.map .str)))),(7,.c (.int .i64 (sumD (ls.take i)+iQ (l.take k.1):Nat))),(32,.c (.slc (ls.map fun l=> .slc (l.map .str)))),(33,.c (.int .i64 ls.length)),(34,.c (.int .i64 i)),(38,.c (.slc (l.map .str))),(39,.c (.int .i64 l.length)),(40,.c (.int .i64 k.1))],fob [])) 300 (fun k=>l.length-k.1) ⟨0,by omega⟩ (fF) ?_;rintro⟨k,hk'⟩;refine R0 ?_;refine aB fun K hK=>?_;refine aG (b:=decide ((k:Int)<l.length)) rfl (fun hb=>?_) (fun hb=>?_)
  ·
   have hlk:k<l.length:=by simpa using hb
   clear hb;have hlt1:=bH0 hlk;have hlt2:=rD l (k+1);have hw2:=hl2 l[k] (List.getElem_mem hlk);refine aJ ?_;refine T0 (hK _ _ _ ?_);clear hK K;refine aB fun K hK=>?_;refine aN ?_;have F:=aI @Int.natCast_nonneg (aI @Int.ofNat_lt (aI hlk (nM hlk)));refine RF ?_;refine Rg ?_;have F:=aI (IntWalk.i64_in _ (show-9223372036854775808≤((sizeW l[k]:Nat):Int)+1∧((sizeW l[k]:Nat):Int)+1≤9223372036854775807 by omega)) (IntWalk.i64_in _ (show-9223372036854775808≤((sumD (ls.take i)+iQ (l.take k):Nat):Int)+(((sizeW l[k]:Nat):Int)+1)∧((sumD (ls.take i)+iQ (l.take k):Nat):Int)+(((sizeW l[k]:Nat):Int)+1)≤9223372036854775807 by omega));iterate 2 refine SF ?_
   refine HS rfl rfl fun K' hK'=>T6 ?_;refine C1 (bC5 l[k] (by omega)) ?_;rintro u rfl;refine AX (hK' _ _ ?_);clear hK' K';iterate 3 refine SF ?_
   refine T2 (hK _ _ _ ?_);clear hK K;refine aK (by kernel_rfl) ?_;refine TQ (iF k) ?_;have he:((sumD (ls.take i)+iQ (l.take k):Nat):Int)+(((sizeW l[k]:Nat):Int)+1)=((sumD (ls.take i)+iQ (l.take (k+1)):Nat):Int):=by omega
   simp only[he];refine⟨⟨k+1,hlk⟩,fF,?_⟩;show l.length-(k+1)<l.length-k;omega
  have hek:k=l.length:=by simp at hb;omega
  subst hek;clear hb;refine bJ (T3 ?_);clear hK K;refine AX (hK _ _ _ ?_);clear hK K;refine aK (by kernel_rfl) ?_;refine TQ (iF i) ?_;have he:((sumD (ls.take i)+iQ (l.take l.length):Nat):Int)=((sumD (ls.take (i+1)):Nat):Int):=by rw[List.take_length];omega
  simp only[he];refine⟨⟨i+1,hlt⟩,fF,?_⟩;show ls.length-(i+1)<ls.length-i;omega
 have hei:i=ls.length:=by simp at hb;omega
 subst hei;clear hb;refine bJ (T3 ?_);clear hK K;refine AX (hK _ _ _ ?_);clear hK K;refine aB fun K hK=>?_;have F:=@List.take_length.{0};refine RF ?_;refine aG (b:=decide ((262144:Int)<(sumD ls:Nat))) rfl (fun hb=>?_) (fun hb=>?_)
 · refine R0 ?_;refine aE (RT Tryz.results53 ?_);rw[if_pos (by rw[hdl];simp at hb;omega)]at hE;refine aO [] (.slc []) (.int .i64 3) ?_ ⟨by rw[iR (by rw[hE];decide)];rfl,by rw[hE]⟩;simp[HV.close,HV.closeL,CV.denil,CV.denilL,HV.norm,HV.toC,HV.toCL]
 refine aJ ?_;refine T0 (hK _ _ _ ?_);clear hK K;have hle:sumD ls≤262144:=by simp at hb;omega
 have hz:((sumD ls:Nat):Int)≤140737488355328:=by omega
 clear hb;rw[if_neg (by rw[hdl];omega)]at hE;have hO:=vK hE;have F:=aI @Int.natCast_nonneg (aI hz (aI @Int.mul_one @List.take_length.{0}));refine RF ?_;refine aB fun K hK=>?_;refine R0 ?_;refine aN ?_;refine bR (α:={i:Nat//i≤ls.length}) (fun i=>(fin [(12,.own 216 (fX (ls.take i.1)).length),(55,.c (.slc (ls.map fun l=> .slc (l.map .str)))),(56,.c (.int .i64 ls.length)),(57,.c (.int .i64 i.1))],fob [(216,.row 5 1 ((fX (ls.take i.1)).map dM))])) 400 (fun i=>ls.length-i.1) ⟨0,by omega⟩ (fF) ?_;rintro⟨i,hi⟩;refine R0 ?_;refine aB fun K hK=>?_;refine aG (b:=decide ((i:Int)<ls.length)) rfl (fun hb=>?_) (fun hb=>?_)
 ·
  have hlt:i<ls.length:=by simpa using hb
  clear hb;have hdt1:=zX hlt;have hdt0:=hdt i;obtain⟨l,hl⟩: ∃l,l=ls[i]:=⟨_,rfl⟩;have hok:=hk l (by rw[hl];exact List.getElem_mem hlt);have hsl:=bB2 hok;obtain⟨hl0,hl1,hl2⟩:=(kM l).1 hok;have hln:nth (ls.map fun l=>CV.slc (l.map .str)) i= .slc (l.map .str):=by rw[bS hlt,hl]
  rw[←hl]at hdt1;refine aJ ?_;refine T0 (hK _ _ _ ?_);clear hK K;refine aB fun K hK=>?_;refine aN ?_;have F:=aI @Int.natCast_nonneg (aI @Int.ofNat_lt (aI hlt hln));refine RF ?_;refine aB fun K hK=>?_;refine R0 ?_;refine aN ?_;refine bR (α:={i:Nat//i≤l.length}) (fun k=>(fin [(12,.own 216 (fX (ls.take i)++gS (l.take k.1)).length),(55,.c (.slc (ls.map fun l=> .slc (l.map .str)))),(56,.c (.int .i64 ls.length)),(57,.c (.int .i64 i)),(61,.c (.slc (l.map .str))),(62,.c (.int .i64 l.length)),(63,.c (.int .i64 k.1))],fob [(216,.row 5 1 ((fX (ls.take i)++gS (l.take k.1)).map dM))])) 500 (fun k=>l.length-k.1) ⟨0,by omega⟩ (fF) ?_;rintro⟨k,hk'⟩;have hsw:=bB1 (l.take k);have hst2:=rD l k;refine R0 ?_;refine aB fun K hK=>?_;refine aG (b:=decide ((k:Int)<l.length)) rfl (fun hb=>?_) (fun hb=>?_)
  ·
   have hlk:k<l.length:=by simpa using hb
   clear hb;have hw2:=hl2 l[k] (List.getElem_mem hlk);have hel:=rB l[k];have hsz:=nO l[k];have hsp:=zV l[k];have hpe:0<(iE l[k]).length:=by omega
   have htk:=zW hlk;have hbe:(fX (ls.take i)).length+(gS (l.take k)).length+(iE l[k]).length≤140737488355328:=by omega
   have hbe1:(fX (ls.take i)).length+(gS (l.take k)).length+1+(iE l[k]).length≤140737488355328:=by omega
   refine aJ ?_;refine T0 (hK _ _ _ ?_);clear hK K;refine aB fun K hK=>?_;refine aN ?_;refine aB fun K hK=>Rg ?_;have F:=aI @Int.natCast_nonneg (aI @Int.ofNat_lt (aI hlk (nM hlk)));iterate 5 refine SF ?_
   refine T2 (hK _ _ _ ?_);clear hK K;refine aB fun K hK=>?_;refine R0 ?_;refine aG (b:=decide ((0:Int)<k)) rfl (fun hb=>?_) (fun hb=>?_)
   ·
    refine Rg ?_;have F:=aI @List.length_append.{0} @List.length_map.{0,0};iterate 4 refine SF ?_
    refine T2 (hK _ _ _ ?_);clear hK K;refine Rg ?_;have F:=aI @List.length_append.{0} (aI @List.length_map.{0,0} (aI hpe (aI hbe hbe1)));iterate 2 refine SF ?_
    refine HS rfl rfl fun K' hK'=>T6 ?_;refine C1 (bC6 l[k] (by omega)) ?_;rintro u rfl;refine AX (hK' _ _ ?_);clear hK' K';iterate 2 refine SF ?_
    refine T2 (hK _ _ _ ?_);clear hK K;refine aK (by kernel_rfl) ?_;refine TQ (iF k) ?_;have hk0:k≠0:=by simp at hb;omega
    refine⟨⟨k+1,hlk⟩,aM (by omega) ?_ ?_,?_⟩
    · rw[htk,if_neg hk0];simp[aZ,upd_at,fin_at,HV.men];omega
    · rw[htk,if_neg hk0];simp only[List.map_append,←List.append_assoc];exact⟨rfl,by omega,trivial,trivial⟩
    show l.length-(k+1)<l.length-k;omega
   refine aJ ?_;refine T0 (hK _ _ _ ?_);clear hK K;refine Rg ?_;have F:=aI @List.length_append.{0} (aI @List.length_map.{0,0} (aI hpe (aI hbe hbe1)));iterate 2 refine SF ?_
   refine HS rfl rfl fun K' hK'=>T6 ?_;refine C1 (bC6 l[k] (by omega)) ?_;rintro u rfl;refine AX (hK' _ _ ?_);clear hK' K';iterate 2 refine SF ?_
   refine T2 (hK _ _ _ ?_);clear hK K;refine aK (by kernel_rfl) ?_;refine TQ (iF k) ?_;have hk0:k=0:=by simp at hb;omega
   refine⟨⟨k+1,hlk⟩,aM (by omega) ?_ ?_,?_⟩
   · rw[htk,if_pos hk0];simp[aZ,upd_at,fin_at,HV.men];omega
   · rw[htk,if_pos hk0,List.nil_append];simp only[List.map_append,←List.append_assoc];exact⟨rfl,by omega,trivial,trivial⟩
   show l.length-(k+1)<l.length-k;omega
  have hek:k=l.length:=by simp at hb;omega
  subst hek;clear hb;rw[List.take_length]at*;refine bJ (T3 ?_);clear hK K;refine AX (hK _ _ _ ?_);clear hK K;refine Rg ?_;have F:=aI @List.length_append.{0} @List.length_map.{0,0};iterate 4 refine SF ?_
  refine T2 (hK _ _ _ ?_);clear hK K;refine aK (by kernel_rfl) ?_;refine TQ (iF i) ?_;refine⟨⟨i+1,hlt⟩,aM (by omega) ?_ ?_,?_⟩
  · rw[hdt1,yQ];simp[aZ,upd_at,fin_at,HV.men];omega
  · rw[hdt1,yQ];simp only[List.map_append,←List.append_assoc];exact⟨rfl,by omega,trivial,trivial⟩
  show ls.length-(i+1)<ls.length-i;omega
 refine bJ (T3 ?_);clear hK K;refine AX (hK _ _ _ ?_);clear hK K;refine R0 ?_;refine aE (RT Tryz.results53 ?_);have hei:i=ls.length:=by simp at hb;omega
 subst hei;refine aO [216] (.slc ((fX ls).map dM)) (.int .i64 0) ?_ ⟨by rw[hO],by rw[hE]⟩;rw[List.take_length];simp[HV.close,fob_at,upd_at,HV.norm,HV.toC,HV.closeL,HV.toCL,List.take_of_length_le,CV.denil,dH]
theorem cB1 (v:CV):nth [v] 0=v:=rfl
theorem xH (c:UInt8):(u8 c).denil=u8 c:=rfl
theorem denilL_u8 : ∀bs:List UInt8,CV.denilL (bs.map u8)=bs.map u8
 |[]=>rfl
 |b::bs=>by simp only[List.map_cons,CV.denilL,denilL_u8 bs];rfl
theorem cB2 (l:List UInt8)(c:UInt8):cF Tryz.prog 142 [.slc (l.map u8),u8 c] (fun v=>v= .int .i64 (dO l c)):=
 cI9 (f:=142) (fn:=Tryz.f142) Tryz.func142 (by kernel_rfl) (by kernel_rfl) (by kernel_rfl) (by kernel_rfl) l c
theorem bQ7 (l:List UInt8)(c:UInt8):cF Tryz.prog 141 [.str l,u8 c] (fun v=>v= .int .i64 (dO l c)):=
 cA5 (f:=141) (fn:=Tryz.f141) Tryz.func141 (by kernel_rfl) (by kernel_rfl) (by kernel_rfl) (by kernel_rfl) l c
theorem cJ2 (l:List UInt8)(c:UInt8):cF Tryz.prog 122 [.slc (l.map u8),u8 c] (fun v=>v= .int .i64 (dO l c)):=by
 refine FW Tryz.func122 ?_;have F:=rI;refine RF ?_;refine aB fun K hK=>Rg ?_;have F:=aI rI (aI @denilL_u8 @xH);iterate 2 refine SF ?_
 refine HS rfl rfl fun K' hK'=>T6 ?_;refine C2 (cB2 l c) ?_;rintro u rfl;refine AX (hK' _ _ ?_);clear hK' K';refine SF ?_;simp only[sE,↓reduceIte,simprocAttr,rI];refine AX (hK _ _ _ ?_);clear hK K;refine aE ?_;simp only[fU,Tryz.results122,fI,fT,eW,↓sP,sA,tyS,simprocAttr,rI];exact aH [] (.int .i64 (dO l c)) rfl rfl
theorem bQ8 (l:List UInt8)(c:UInt8):cF Tryz.prog 121 [.str l,u8 c] (fun v=>v= .int .i64 (dO l c)):=by
 refine FW Tryz.func121 ?_;have F:=rI;refine RF ?_;refine aB fun K hK=>Rg ?_;have F:=aI rI (aI @denilL_u8 @xH);iterate 2 refine SF ?_
 refine HS rfl rfl fun K' hK'=>T6 ?_;refine C2 (bQ7 l c) ?_;rintro u rfl;refine AX (hK' _ _ ?_);clear hK' K';refine SF ?_;simp only[sE,↓reduceIte,simprocAttr,rI];refine AX (hK _ _ _ ?_);clear hK K;refine aE ?_;simp only[fU,Tryz.results121,fI,fT,eW,↓sP,sA,tyS,simprocAttr,rI];exact aH [] (.int .i64 (dO l c)) rfl rfl
theorem rP (l:List UInt8)(c:UInt8):cF Tryz.prog 104 [.str l,u8 c] (fun v=>v= .int .i64 (dO l c)):=by
 refine FW Tryz.func104 ?_;have F:=rI;refine RF ?_;refine aB fun K hK=>Rg ?_;have F:=aI rI (aI @denilL_u8 @xH);iterate 2 refine SF ?_
 refine HS rfl rfl fun K' hK'=>T6 ?_;refine C2 (bQ8 l c) ?_;rintro u rfl;refine AX (hK' _ _ ?_);clear hK' K';refine SF ?_;simp only[sE,↓reduceIte,simprocAttr,rI];refine AX (hK _ _ _ ?_);clear hK K;refine aE ?_;simp only[fU,Tryz.results104,fI,fT,eW,↓sP,sA,tyS,simprocAttr,rI];exact aH [] (.int .i64 (dO l c)) rfl rfl
theorem aA9 (l:List UInt8)(c:UInt8):cF Tryz.prog 105 [.slc (l.map u8),.slc [u8 c]] (fun v=>v= .int .i64 (dO l c)):=by
 refine FW Tryz.func105 ?_;have F:=rI;refine RF ?_;refine RF ?_;refine aB fun K hK=>?_;refine aN ?_;refine RF ?_;refine aG (b:=(1:Int)==0) rfl (fun hb=>?_) (fun hb=>?_)
 · exact absurd hb (by decide)
 refine RF ?_;refine aG (b:=(1:Int)==1) rfl (fun hb=>?_) (fun hb=>?_)
 ·
  refine aB fun K hK=>Rg ?_;have F:=aI rI (aI @u8.eq_1 (aI @cB1 @denilL_u8));iterate 4 refine SF ?_
  refine HS rfl rfl fun K' hK'=>T6 ?_;refine C2 (cJ2 l c) ?_;rintro u rfl;refine AX (hK' _ _ ?_);clear hK' K';refine SF ?_;simp only[sE,↓reduceIte,simprocAttr,rI];refine AX (hK _ _ _ ?_);clear hK K;refine aE ?_;simp only[fU,Tryz.results105,fI,fT,eW,↓sP,sA,tyS,simprocAttr,rI];exact aH [] (.int .i64 (dO l c)) rfl rfl
 exact absurd hb (by decide)
theorem cB3 (l:List UInt8)(c:UInt8)(hl:l.length<2^40):wX Tryz.prog 85 [.slc (l.map u8),.slc [u8 c]] (fun x y f=> ∃(li re:List UInt8) (fd:Bool),x= .slc (li.map u8)∧y= .slc (re.map u8)∧f= .bool fd∧CutR l c li re fd):=by
 refine FW Tryz.func85 ?_;have F:=rI;refine RF ?_;refine aB fun K hK=>?_;refine aB fun K hK=>Rg ?_;have F:=aI rI @denilL_u8;iterate 2 refine SF ?_
 refine HS rfl rfl fun K' hK'=>T6 ?_;refine C2 (aA9 l c) ?_;rintro u rfl;refine AX (hK' _ _ ?_);clear hK' K';refine SF ?_;simp only[sE,↓reduceIte,simprocAttr,rI];refine AX (hK _ _ _ ?_);clear hK K;have F:=rI;refine RF ?_;refine aG (b:=decide ((0:Int)≤dO l c)) rfl (fun hb=>?_) (fun hb=>?_)
 ·
  have hn: ¬dO l c<0:=by simp at hb;omega
  obtain⟨i,hi,hil,hsp⟩:=eC hn;have hi':=hi;rw[hi];refine aB fun K hK=>QR ?_;have F:=aI rI (aI @Int.natCast_nonneg (aI @Int.ofNat_le (aI @Int.sub_zero (aI @Nat.sub_zero (aI @List.drop_zero.{0} (aI @lI (aI @denilL_u8 (aI @List.length_map.{0,0} (show IntKind.i64.wrap ((i:Int)+1)=((i+1:Nat):Int)from by rw[IntWalk.i64_in _ (by omega)];rfl)))))))));iterate 12 refine SF ?_
  simp only[sE,↓reduceIte,simprocAttr,rI];refine AX (hK _ _ _ ?_);clear hK K;refine aE ?_;simp only[fU,Tryz.results85,fI,fT,eW,↓sP,sA,tyS,simprocAttr,rI];refine dK [] (.slc ((l.take i).map u8)) (.slc ((l.drop (i+1)).map u8)) (.bool true) ?_ ⟨_,_,_,rfl,rfl,rfl,.inr ⟨rfl,i,hi,hil,rfl,rfl⟩⟩;simp[HV.close,HV.closeL,HV.norm,HV.toC,HV.toCL,CV.denil,denilL_u8];exact⟨by rw[←List.map_take,denilL_u8],by rw[←List.map_drop,←List.map_take,denilL_u8,List.take_of_length_le (by simp)]⟩
 have hn:dO l c<0:=by simp at hb;omega
 refine aJ ?_;refine TQ rI ?_;refine AX (hK _ _ _ ?_);clear hK K;refine aB fun K hK=>Rg ?_;iterate 4 refine SF ?_
 simp only[sE,↓reduceIte,simprocAttr,rI];refine AX (hK _ _ _ ?_);clear hK K;refine aE ?_;simp only[fU,Tryz.results85,fI,fT,eW,↓sP,sA,tyS,simprocAttr,rI];refine dK [] (.slc (l.map u8)) (.slc []) (.bool false) ?_ ⟨l,[],false,rfl,rfl,rfl,.inl ⟨rfl,hn,rfl,rfl⟩⟩;simp[HV.close,HV.closeL,HV.norm,HV.toC,HV.toCL,CV.denil,denilL_u8]
theorem cB4 (l:List UInt8)(c:UInt8):bC3 Tryz.prog 106 126 [.slc (l.map u8),.slc [u8 c],.int .i64 0] [(47,.slc [u8 c]),(47,.slc (l.map u8)),(3,.int .i64 0)]:=by
 refine FW Tryz.func106 ?_;refine aB fun K hK=>Rg ?_;have F:=rI;iterate 4 refine SF ?_
 simp only[sE,↓reduceIte,simprocAttr,rI];refine AX (hK _ _ _ ?_);clear hK K;refine RF ?_;refine aE ?_;simp only[fU,Tryz.results106,fI,fT,eW,↓sP,sA,tyS,simprocAttr,rI];refine tH (gf:=126) (bs:=[(47,.slc [u8 c]),(47,.slc (l.map u8)),(3,.int .i64 0)]) (ids:=[4,0,8]) rfl (by simp) (by decide) ?_ ?_
 ·
  intro j x hx
  match j,hx with
  |0,hx=>cases hx;rfl
  |1,hx=>cases hx;rfl
  |2,hx=>cases hx;rfl
 intro x hx;simp only[List.mem_cons,List.not_mem_nil,or_false]at hx;rcases hx with rfl|rfl|rfl
 · rfl
 · exact congrArg CV.slc (denilL_u8 l)
 rfl
theorem bI3 (l:List UInt8)(c:UInt8):bC3 Tryz.prog 86 126 [.slc (l.map u8),.slc [u8 c]] [(47,.slc [u8 c]),(47,.slc (l.map u8)),(3,.int .i64 0)]:=by
 refine FW Tryz.func86 ?_;have F:=rI;refine RF ?_;refine aB fun K hK=>Rg ?_;iterate 2 refine S0 ?_ (e:=fun _ h_=>by simp only[sH,↓sP,sA,tyS,simprocAttr,rI,denilL_u8,mU,iD,List.range',List.map_cons,List.map_nil];exact AX h_)
 refine HS rfl rfl fun K' hK'=>?_;simp only[sH,↓sP,sA,tyS,simprocAttr,rI,denilL_u8,mU,iD,List.range',List.map_cons,List.map_nil];refine tG (args:=[_,_,_]) (cB4 l c) (by simp) ⟨rfl,rfl,rfl,rfl⟩ ?_;refine AX (hK' _ _ ?_);clear hK' K';refine S0 ?_ (e:=fun _ h_=>by simp only[sH,↓sP,sA,tyS,simprocAttr,rI,denilL_u8,mU,iD,List.range',List.map_cons,List.map_nil];exact AX h_);simp only[sE,↓reduceIte,simprocAttr,rI];refine AX (hK _ _ _ ?_);clear hK K;refine aE ?_;simp only[fU,Tryz.results86,fI,fT,eW,↓sP,sA,tyS,simprocAttr,rI];refine tH (gf:=126) (bs:=[(47,.slc [u8 c]),(47,.slc (l.map u8)),(3,.int .i64 0)]) (ids:=[12,13,14]) rfl (by simp) (by decide) ?_ ?_
 ·
  intro j x hx
  match j,hx with
  |0,hx=>cases hx;rfl
  |1,hx=>cases hx;rfl
  |2,hx=>cases hx;rfl
 intro x hx;simp only[List.mem_cons,List.not_mem_nil,or_false]at hx;rcases hx with rfl|rfl|rfl
 · rfl
 · exact congrArg CV.slc (denilL_u8 l)
 rfl
end Go.Proofs.YtlldglbooaefhaaGreatDoor
namespace Go.Pl
open Go Go.Hl
theorem rQ (c:UInt8): ∀l:List UInt8,(aS c l).length=Lib.countByte l c+1
 |[]=>rfl
 |b::l=>by
  have ih:=rQ c l;unfold Lib.countByte at ih⊢;rw[List.count_cons];unfold aS;by_cases h:b=c
  · rw[if_pos h];simp only[List.length_cons,ih,h,beq_self_eq_true,if_true]
  ·
   have hb:(b==c)=false:=by simpa using h
   rw[if_neg h];simp only[hb,Bool.false_eq_true,if_false,Nat.add_zero];split
   · rename_i x xs hx;rw[hx]at ih;simpa using ih
   · rename_i hx;exact absurd hx (dC c l)
theorem aW6 {c:UInt8}{l:List UInt8}(h:(aS c l).length=1):aS c l=[l]:=by
 by_cases hn:dO l c<0;all_goals grind[nP,eC,List.length_pos_iff,dC,List.length_cons]
def SplSt (l:aF)(c:UInt8)(i:Nat)(rest:aF)(a:List aF):Prop:=
 a.length=(aS c l).length∧a.take i=(aS c l).take i∧(aS c l).drop i=aS c rest∧i<(aS c l).length∧rest.length≤l.length
section
variable {l rest:aF}{c:UInt8}{i k:Nat}{a:List aF}
theorem SplSt.init (l:aF)(c:UInt8):SplSt l c 0 l (List.replicate (aS c l).length []):=
 ⟨by simp,by simp,rfl,List.length_pos_iff.2 (dC c l),Nat.le_refl _⟩
theorem SplSt.next (h:SplSt l c i rest a)(hk:dO rest c=(k:Int)):k<rest.length∧SplSt l c (i+1) (rest.drop (k+1)) (a.set i (rest.take k)):=by
 obtain⟨h1,h2,h3,h4,h5⟩:=h;obtain⟨k',e1,e2,e3⟩:=eC (l:=rest) (c:=c) (by omega);have:k'=k:=by omega
 subst this;rw[e3]at h3;have h6:=List.drop_eq_getElem_cons h4;rw[h6]at h3;have h7:=List.head_eq_of_cons_eq h3;have h8:=List.tail_eq_of_cons_eq h3;refine⟨e2,by grind,?_,h8,?_,by grind⟩
 · rw[List.take_succ_eq_append_getElem (by grind),List.take_succ_eq_append_getElem h4,List.getElem_set_self,List.take_set_of_le (Nat.le_refl _),h2,h7]
 grind[Nat.lt_or_ge,aS,List.drop_eq_nil_of_le,absurd,dC]
theorem SplSt.last (h:SplSt l c i rest a)(hk:dO rest c<0):i+1=(aS c l).length:=by
 obtain⟨h1,h2,h3,h4,h5⟩:=h;rw[nP hk]at h3;have:=congrArg List.length h3;grind
theorem SplSt.fin (h:SplSt l c i rest a)(hi:i+1=(aS c l).length):a.set i rest=aS c l:=by
 obtain⟨h1,h2,h3,h4,h5⟩:=h;have h6:(aS c rest).length=1:=by rw[←h3,List.length_drop];omega
 rw[aW6 h6]at h3;have e1:a.set i rest=(a.set i rest).take (i+1):=(List.take_of_length_le (by grind)).symm;rw[e1,List.take_succ_eq_append_getElem (by grind),List.getElem_set_self,List.take_set_of_le (Nat.le_refl _),h2];grind[List.take_append_drop,aS]
end
def jJ (c:UInt8):Bool:=decide (48≤c.toNat)&&decide (c.toNat≤57)
def dV :aF→Nat→Option Nat
 |[],n=>some n
 |c::l,n=>if jJ c then dV l (10*n+(c.toNat-48))else none
def fB (s:aF):Bool:=decide (s.length<1)||decide (13<s.length)||(decide (1<s.length)&&s.getD 0 0==48)
def bK (s:aF):Option Int:=if fB s then none else match dV s 0 with|some n=>if 1099511627776<n then none else some (n:Int)|none=>none
def DgSt (s:aF)(i n:Nat):Prop:=i≤s.length∧dV s 0=dV (s.drop i) n∧n<10^i
theorem DgSt.init (s:aF):DgSt s 0 0:=⟨Nat.zero_le _,rfl,by omega⟩
variable {i n:Nat}{s:aF}
theorem DgSt.next (h:DgSt s i n)(hi:i<s.length)(hd:jJ s[i]=true):DgSt s (i+1) (10*n+(s[i].toNat-48)):=by
 obtain⟨h1,h2,h3⟩:=h;refine⟨hi,?_,?_⟩
 · rw[h2,List.drop_eq_getElem_cons hi,dV,if_pos hd]
 · simp only[jJ,Bool.and_eq_true,decide_eq_true_eq]at hd;grind
theorem DgSt.bad (h:DgSt s i n)(hi:i<s.length)(hd:jJ s[i]=false):dV s 0=none:=by
 rw[h.2.1,List.drop_eq_getElem_cons hi,dV,if_neg (by grind)]
theorem DgSt.fin (h:DgSt s i n)(hi:i=s.length):dV s 0=some n:=by
 rw[h.2.1,hi,List.drop_length];rfl
theorem DgSt.lt (h:DgSt s i n)(hs:s.length≤13):n<10000000000000:=by
 have:10^i≤10^13:=Nat.pow_le_pow_right (by omega) (Nat.le_trans h.1 hs);have:=h.2.2;omega
theorem nT (h:fB s=true):bK s=none:=by unfold bK;grind
theorem oW (h:dV s 0=none):bK s=none:=by grind[bK]
theorem aO5 (h:dV s 0=some n)(h1:1099511627776<n):bK s=none:=by simp_all[bK,if_pos]
theorem aG4 {n:Nat}(h0:fB s=false)(h:dV s 0=some n)(h1: ¬1099511627776<n):bK s=some (n:Int):=by simp_all[bK,if_neg]
theorem aO6 (c:UInt8):jJ c=(decide ((48:Int)≤(c.toNat:Int))&&decide ((c.toNat:Int)≤57)):=by
 unfold jJ;grind
theorem jZ {n:Int}(h:bK s=some n):0≤n∧n≤1099511627776:=by grind[bK]
end Go.Pl
namespace Go.Proofs.YtlldglbooaefhaaGreatDoor
open Go Go.Hl Go.Pl
set_option maxRecDepth 10000
set_option maxHeartbeats 16000000
theorem bI4 (l:List UInt8)(c:UInt8):cF Tryz.prog 133 [.str l,u8 c] (fun v=>v= .int .i64 (Lib.countByte l c:Nat)):=
 tB (f:=133) (fn:=Tryz.f133) (e:=Extern.BytealgCount.count) Tryz.func133 (by kernel_rfl) (by kernel_rfl) (by kernel_rfl) (by kernel_rfl) fun w ρ O xs h=>by
  simp only[List.map_cons,List.map_nil,bV,RepHV]at h;obtain⟨x,l1,rfl,hx,y,l2,rfl,hy,rfl⟩:=h;have h1:=RepV.single hx rfl;have h2:=RepV.single hy rfl;simp only[u8,RepC,List.cons.injEq,and_true]at h1 h2;subst h1 h2;refine⟨_,_,rfl,eE _ _ _ _ _,?_⟩;have:=Lib.run_countString (P:=Tryz.prog) ⟨l.toArray⟩ (c.toNat:Int) w;simpa using this
theorem xI (l:List UInt8)(c:UInt8):cF Tryz.prog 134 [.str l,.str [c]] (fun v=>v= .int .i64 (dO l c)):=by
 refine FW Tryz.func134 ?_;refine R0 ?_;refine R0 ?_;refine aB fun K hK=>?_;refine aN ?_;refine aB fun K hK=>Rg ?_;iterate 3 refine S0 ?_
 refine aD 18 rfl (fun h2_18=>?_) (fun h2_18=>?_)
 ·
  have F:=h2_18;iterate 5 refine SF ?_
  refine T2 (hK _ _ _ ?_);clear hK K;refine CT rfl ?_;refine R0 ?_;refine aE (RT Tryz.results134 ?_);exact absurd h2_18 (by decide)
 have F:=h2_18;iterate 5 refine SF ?_
 refine aD 22 rfl (fun h2_22=>?_) (fun h2_22=>?_)
 · simp only[h2_22];refine T2 (hK _ _ _ ?_);clear hK K;refine CT rfl ?_;refine R0 ?_;refine aE (RT Tryz.results134 ?_);have hl:l=[c]:=(eq_of_beq h2_22).symm;subst hl;exact aH [] (.int .i64 0) rfl (by simp[dO])
 simp only[h2_22];refine T2 (hK _ _ _ ?_);clear hK K;refine CF rfl ?_;refine R0 ?_;refine aG (b:=(1:Int)==1) rfl (fun hb=>?_) (fun hb=>?_)
 ·
  refine aB fun K hK=>Rg ?_;have F:=aI @List.getD_cons_zero.{0} (aI h2_18 h2_22);iterate 3 refine SF ?_
  refine HS rfl rfl fun K' hK'=>T6 ?_;refine C2 (bQ8 l c) ?_;rintro u rfl;refine AX (hK' _ _ ?_);clear hK' K';refine SF ?_;refine T2 (hK _ _ _ ?_);clear hK K;refine aE (RT Tryz.results134 ?_);exact aH [] (.int .i64 (dO l c)) rfl rfl
 exact absurd hb (by decide)
theorem aO7 (l:List UInt8)(c:UInt8):cF Tryz.prog 112 [.str l,.str [c]] (fun v=>v= .int .i64 (dO l c)):=by
 refine FW Tryz.func112 ?_;refine R0 ?_;refine aB fun K hK=>Rg ?_;iterate 2 refine S0 ?_
 refine HS rfl rfl fun K' hK'=>T5 ?_;refine C2 (xI l c) ?_;rintro u rfl;refine AX (hK' _ _ ?_);clear hK' K';refine S0 ?_;refine T2 (hK _ _ _ ?_);clear hK K;refine aE (RT Tryz.results112 ?_);exact aH [] (.int .i64 (dO l c)) rfl rfl
theorem aO8 (l:List UInt8)(c:UInt8):cF Tryz.prog 111 [.str l,.str [c]] (fun v=>v= .int .i64 (Lib.countByte l c:Nat)):=by
 refine FW Tryz.func111 ?_;refine R0 ?_;refine aB fun K hK=>?_;refine R0 ?_;refine aG (b:=(1:Int)==0) rfl (fun hb=>?_) (fun hb=>?_)
 · exact absurd hb (by decide)
 refine aJ ?_;refine T0 (hK _ _ _ ?_);clear hK K;refine aB fun K hK=>?_;refine R0 ?_;refine aG (b:=(1:Int)==1) rfl (fun hb=>?_) (fun hb=>?_)
 ·
  refine aB fun K hK=>Rg ?_;have F:=@List.getD_cons_zero.{0};iterate 3 refine SF ?_
  refine HS rfl rfl fun K' hK'=>T6 ?_;refine C2 (bI4 l c) ?_;rintro u rfl;refine AX (hK' _ _ ?_);clear hK' K';refine SF ?_;refine T2 (hK _ _ _ ?_);clear hK K;refine aE (RT Tryz.results111 ?_);exact aH [] (.int .i64 _) rfl rfl
 exact absurd hb (by decide)
theorem aO9 (l:List UInt8)(c:UInt8)(hl:l.length<2^40):cF Tryz.prog 94 [.str l,.str [c],.int .i64 0,.int .i64 (-1)] (fun v=>v= .slc ((aS c l).map .str)):=by
 refine FW Tryz.func94 ?_;refine R0 ?_;refine aB fun K hK=>?_;refine R0 ?_;refine aG (b:=(-1:Int)==0) rfl (fun hb=>?_) (fun hb=>?_)
 · exact absurd hb (by decide)
 refine aJ ?_;refine T0 (hK _ _ _ ?_);clear hK K;refine aB fun K hK=>?_;refine R0 ?_;refine aG (b:=[c]==[]) rfl (fun hb=>?_) (fun hb=>?_)
 · exact absurd hb (by simp)
 refine aJ ?_;refine T0 (hK _ _ _ ?_);clear hK K;refine aB fun K hK=>?_;refine R0 ?_;refine aG (b:=decide ((-1:Int)<0)) rfl (fun hb=>?_) (fun hb=>?_)
 ·
  obtain⟨n,hn⟩: ∃n,n=(aS c l).length:=⟨_,rfl⟩;have hcount:=rQ c l;have hlen:=eQ c l;rw[←hn]at hcount hlen;have hw0:IntKind.i64.wrap ((Lib.countByte l c:Nat)+1:Int)=(n:Int):=by rw[IntWalk.i64_in _ (by omega)];omega
  refine Rg ?_;have F:=hw0;iterate 2 refine SF ?_
  refine HS rfl rfl fun K' hK'=>T6 ?_;refine C2 (aO8 l c) ?_;rintro u rfl;refine AX (hK' _ _ ?_);clear hK' K';iterate 2 refine SF ?_
  refine T2 (hK _ _ _ ?_);clear hK K;have hw1:IntKind.i64.wrap ((l.length:Int)+1)=((l.length+1:Nat):Int):=by rw[IntWalk.i64_in _ (by omega)];omega
  have hmin:(if((l.length+1:Nat):Int)<(n:Int)then((l.length+1:Nat):Int)else(n:Int))=(n:Int):=by rw[if_neg (by omega)]
  refine aB fun K hK=>Rg ?_;have F:=aI hw1 hmin;iterate 6 refine SF ?_
  refine T2 (hK _ _ _ ?_);clear hK K;have hn0:((n:Int)=0)=False:=by simp;omega
  have hrep:(List.replicate n (CV.str []))=(List.replicate n ([]:aF)).map .str:=by simp
  have F:=aI hn0 (aI hrep @Int.toNat_natCast);refine RF ?_;have hw2:IntKind.i64.wrap ((n:Int)-1)=((n-1:Nat):Int):=by rw[IntWalk.i64_in _ (by omega)];omega
  have F:=hw2;refine RF ?_;refine R0 ?_;refine aB fun K hK=>?_;refine aN ?_;have hn1:1≤n:=by rw[hn];exact List.length_pos_iff.2 (dC c l)
  refine bR (α:={y:Nat×aF×List aF//SplSt l c y.1 y.2.1 y.2.2}) (fun y=>(fin [(0,.c (.str y.1.2.1)),(1,.c (.str [c])),(2,.c (.int .i64 0)),(3,.c (.int .i64 (n-1:Nat))),(9,.own 76 n),(10,.c (.int .i64 y.1.1))],fob [(76,.row 9 1 (y.1.2.2.map .str))])) 100 (fun y=>y.1.2.1.length) ⟨(0,l,List.replicate n []),by rw[hn];exact SplSt.init l c⟩ (fF) ?_;rintro⟨⟨i,rest,a⟩,hst⟩;simp only at hst;have hin:i<n:=by rw[hn];exact hst.2.2.2.1
  have hal:a.length=n:=by rw[hn];exact hst.1
  have hia:i<a.length:=by omega
  have hna:nth (a.map CV.str) i= .str a[i]:=bS hia;have hrl:=hst.2.2.2.2;refine aB fun K hK=>?_;refine R0 ?_;refine aG (b:=decide ((i:Int)<((n-1:Nat):Int))) rfl (fun hb=>?_) (fun hb=>?_)
  ·
   have hi1:i+1<n:=by simp at hb;omega
   clear hb;refine aJ ?_;refine T0 (hK _ _ _ ?_);clear hK K;refine aN ?_;refine aB fun K hK=>Rg ?_;iterate 2 refine S0 ?_
   refine HS rfl rfl fun K' hK'=>T5 ?_;refine C2 (aO7 rest c) ?_;rintro u rfl;refine AX (hK' _ _ ?_);clear hK' K';refine S0 ?_;refine T2 (hK _ _ _ ?_);clear hK K;refine aB fun K hK=>?_;refine R0 ?_;refine aG (b:=decide (dO rest c<0)) rfl (fun hb=>?_) (fun hb=>?_)
   · have:=hst.last (by simpa using hb);omega
   obtain⟨k,hk,hkl,_⟩:=eC (l:=rest) (c:=c) (by simpa using hb);obtain⟨_,hnx⟩:=hst.next hk;rw[hk];have hkl1:k+1≤rest.length:=hkl;have hw3:IntKind.i64.wrap ((k:Int)+0)=(k:Int):=by rw[IntWalk.i64_in _ (by omega)];omega
   have hw4:IntKind.i64.wrap ((k:Int)+1)=((k+1:Nat):Int):=by rw[IntWalk.i64_in _ (by omega)];rfl
   have hw5:IntKind.i64.wrap ((i:Int)+1)=((i+1:Nat):Int):=by rw[IntWalk.i64_in _ (by omega)];rfl
   have htd:List.take (rest.length-(k+1)) (List.drop (k+1) rest)=List.drop (k+1) rest:=List.take_of_length_le (by simp);refine aJ ?_;refine T0 (hK _ _ _ ?_);clear hK K;refine aB fun K hK=>Rg ?_;iterate 9 refine S0 ?_ (e:=fun _ h_=>by simp only[sH,↓sP,sA,tyS,simprocAttr,Int.natCast_nonneg,Int.ofNat_le,Int.ofNat_lt,Nat.le_of_lt hkl,hw3,Nat.sub_zero,List.drop_zero,List.length_map,hal,hin,hna];exact AX h_)
   refine T2 (hK _ _ _ ?_);clear hK K;refine aB fun K hK=>Rg ?_;have F:=aI @Int.natCast_nonneg (aI @Int.ofNat_le (aI hkl1 (aI hw4 htd)));iterate 7 refine SF ?_
   refine T2 (hK _ _ _ ?_);clear hK K;refine aK (by kernel_rfl) ?_;refine TQ hw5 ?_;refine⟨⟨(i+1,rest.drop (k+1),a.set i (rest.take k)),hnx⟩,aM (by omega) ?_ ?_,?_⟩
   · simp[aZ,upd_at,fin_at,HV.men]
   · simp only[bA,List.map_set];exact⟨rfl,by omega,trivial,trivial⟩
   show(rest.drop (k+1)).length<rest.length;simp;omega
  refine bJ (T3 ?_);clear hK K;refine AX (hK _ _ _ ?_);clear hK K;have hi1:i+1=n:=by simp at hb;omega
  have hfin:=hst.fin (by omega);have hw5:IntKind.i64.wrap ((i:Int)+1)=(n:Int):=by rw[IntWalk.i64_in _ (by omega)];omega
  refine aB fun K hK=>Rg ?_;have F:=aI @Int.natCast_nonneg (aI @Int.ofNat_lt (aI @List.length_map.{0,0} (aI hal (aI hin hna))));iterate 5 refine SF ?_
  refine T2 (hK _ _ _ ?_);clear hK K;refine aB fun K hK=>Rg ?_;have F:=aI @Int.natCast_nonneg (aI hw5 (aI @List.length_map.{0,0} (aI @List.length_set.{0} (aI hal @Int.le_refl))));iterate 5 refine SF ?_
  refine T2 (hK _ _ _ ?_);clear hK K;refine aE (RT Tryz.results94 ?_);refine aH [76] (.slc ((aS c l).map .str)) ?_ rfl;have hset:(a.map CV.str).set i (CV.str rest)=(aS c l).map .str:=by rw[←List.map_set,hfin]
  have ht:List.take n ((aS c l).map CV.str)=(aS c l).map .str:=List.take_of_length_le (by simp[hn]);rw[hset];have hn0':0<n:=hn1;simp[HV.close,upd_at,←hn,HV.norm,HV.toC,CV.denil,denilL_str,ht,hn0']
 exact absurd hb (by decide)
theorem aP0 (l:List UInt8)(c:UInt8)(hl:l.length<2^40):cF Tryz.prog 68 [.str l,.str [c]] (fun v=>v= .slc ((aS c l).map .str)):=by
 refine FW Tryz.func68 ?_;refine R0 ?_;refine aB fun K hK=>Rg ?_;iterate 2 refine S0 ?_
 refine HS rfl rfl fun K' hK'=>T5 ?_;refine C4 (aO9 l c hl) ?_;rintro u rfl;refine AX (hK' _ _ ?_);clear hK' K';refine S0 ?_;refine T2 (hK _ _ _ ?_);clear hK K;refine aE (RT Tryz.results68 ?_);exact aH [] (.slc ((aS c l).map .str)) (by simp[HV.close,HV.norm,HV.toC,CV.denil,denilL_str]) rfl
end Go.Proofs.YtlldglbooaefhaaGreatDoor
namespace Go.Pl
open Go Go.Hl
def tab (n:Nat)(f:Nat→Bool):List Bool:=(List.range n).map f
theorem mM (n:Nat)(f:Nat→Bool):(tab n f).length=n:=by simp[tab]
variable {i n:Nat}{f:Nat→Bool}
theorem rR (h:i<n):(tab n f)[i]'(by rw[mM];exact h)=f i:=by simp[tab]
theorem bI5 (n:Nat):List.replicate n false=tab n (fun _=>false):=by
 refine List.ext_getElem (by simp[mM]) fun i h1 h2=>?_;grind[rR]
theorem cB5 {b:Bool}:(tab n f).set i b=tab n (fun j=>if j=i then b else f j):=by
 refine List.ext_getElem (by simp[mM]) fun j h1 h2=>?_;rw[mM]at h2;rw[rR h2,List.getElem_set];by_cases e:i=j
 · grind
 · rw[if_neg e,if_neg fun h=>e h.symm,rR h2]
theorem bC7 {g:Nat→Bool}(h: ∀i,i<n→f i=g i):tab n f=tab n g:=by grind[List.ext_getElem,mM,rR]
def bC1 (b:Bool):CV:= .bool b
theorem cB6 (h:i<n):nth ((tab n f).map bC1) i= .bool (f i):=by
 rw[bS (by rw[mM];exact h),rR h];rfl
section
variable (ps:List Pt)(s:aF)
def prt (k:Nat):Pt:=ps.getD k ⟨0,0⟩
theorem cO0 :mD ps s 0 0=true:=by rw[mD.eq_def]
theorem cO1 (i:Nat):mD ps s 0 (i+1)=false:=by rw[mD.eq_def]
theorem cO2 (k:Nat):mD ps s (k+1) 0=((prt ps k).long&&mD ps s k 0):=by rw[mD.eq_def];rfl
theorem pN (k i:Nat):mD ps s (k+1) (i+1)=if(prt ps k).long then mD ps s k (i+1)||(mD ps s (k+1) i&&(prt ps k).takes (s.getD i 0))else mD ps s k i&&(prt ps k).takes (s.getD i 0):=by
 rw[mD.eq_def];rfl
def nxt (k i j:Nat):Bool:=if j≤i then mD ps s (k+1) j else false
theorem bQ9 (k:Nat)(j:Nat):(if j=0 then(mD ps s k 0&&(prt ps k).long)else false)=nxt ps s k 0 j:=by
 unfold nxt;by_cases h:j=0
 · subst h;rw[if_pos rfl,if_pos (Nat.le_refl _),cO2,Bool.and_comm]
 · rw[if_neg h,if_neg (by omega)]
theorem bR0 (k i:Nat)(j:Nat):(if j=i+1 then mD ps s (k+1) (i+1)else nxt ps s k i j)=nxt ps s k (i+1) j:=by
 unfold nxt;grind
theorem cB7 (k:Nat):tab (s.length+1) (nxt ps s k s.length)=tab (s.length+1) (mD ps s (k+1)):=
 bC7 fun i hi=>by unfold nxt;grind
theorem bR1 :tab (s.length+1) (fun j=>if j=0 then true else false)=tab (s.length+1) (mD ps s 0):=
 bC7 fun i _=>by
  cases i with
  |zero=>rw[cO0];rfl
  |succ i=>rw[cO1];rfl
def p1 (i k j:Nat):Bool:=(decide (j<k)&&((prt ps j).long&&(mN ps s j i&&(prt ps j).takes (s.getD i 0))))||
 (decide (1≤j)&&(decide (j-1<k)&&(!(prt ps (j-1)).long&&(mN ps s (j-1) i&&(prt ps (j-1)).takes (s.getD i 0)))))
def p2 (i k j:Nat):Bool:=if j≤k then mN ps s j (i+1)else p1 ps s i ps.length j
end
end Go.Pl
namespace Go.Proofs.YtlldglbooaefhaaGreatDoor
open Go Go.Hl Go.Pl
set_option maxRecDepth 10000
set_option maxHeartbeats 16000000
theorem bI6 (c d:UInt8):((c.toNat:Int)==(d.toNat:Int))=(c==d):=by
 by_cases h:c=d
 · simp[h]
 have: ¬(c.toNat:Int)=(d.toNat:Int):=fun e=>h (UInt8.toNat_inj.1 (by omega));rw[beq_false_of_ne this,beq_false_of_ne h]
theorem cR3 (c d:UInt8):((c.toNat:Int) !=(d.toNat:Int))=!(c==d):=by
 show(!((c.toNat:Int)==(d.toNat:Int)))=_;rw[bI6]
theorem fY (x:Pt)(hk:x.k≤3):cF Tryz.prog 98 [x.cv] (fun v=>v= .bool x.long):=by
 refine FW Tryz.func98 ?_;have F:=aI @Pt.cells (aI @Pt.isAgg @Pt.getAll);refine RF ?_;refine aB fun K hK=>Rg ?_;have F:=@Pt.get_k;iterate 4 refine SF ?_
 refine aD 5 rfl (fun h1_5=>?_) (fun h1_5=>?_)
 ·
  have F:=aI @Pt.get_k h1_5;iterate 5 refine SF ?_
  refine T2 (hK _ _ _ ?_);clear hK K;refine aE (RT Tryz.results98 ?_);refine aH [] (.bool _) rfl ?_;have hkk:x.k=0∨x.k=1∨x.k=2∨x.k=3:=by omega
  rcases hkk with h|h|h|h<;>simp_all[Pt.long]
 have F:=aI @Pt.get_k h1_5;iterate 5 refine SF ?_
 refine T2 (hK _ _ _ ?_);clear hK K;refine aE (RT Tryz.results98 ?_);refine aH [] (.bool _) rfl ?_;have hkk:x.k=0∨x.k=1∨x.k=2∨x.k=3:=by omega
 rcases hkk with h|h|h|h<;>simp_all[Pt.long]
theorem cB8 (c:UInt8):cF Tryz.prog 115 [u8 c] (fun v=>v= .bool true):=by
 refine FW Tryz.func115 ?_;refine R0 ?_;refine R0 ?_;refine aE (RT Tryz.results115 ?_);exact aH [] (.bool true) rfl rfl
theorem bC8 (c:UInt8):cF Tryz.prog 116 [u8 c] (fun v=>v= .bool (!(c==47))):=by
 refine FW Tryz.func116 ?_;refine R0 ?_;refine R0 ?_;refine aE (RT Tryz.results116 ?_);exact aH [] (.bool (!(c==47))) (by rw[←cR3 c 47];rfl) rfl
end Go.Proofs.YtlldglbooaefhaaGreatDoor
namespace Go.Pl
open Go Go.Hl
def aft (l:List Nd)(i:Nat):Nat:=l.length-((skip 1 (l.drop i)).getD []).length
variable {i:Nat}{l:List Nd}
theorem aW7 {j:Nat}(hj:j≤l.length)(h:skip 1 (l.drop i)=some (l.drop j)):aft l i=j:=by grind[aft,List.length_drop]
theorem lB (h:IsTree l)(hi:i<l.length):i<aft l i∧aft l i≤l.length∧skip 1 (l.drop i)=some (l.drop (aft l i)):=by grind[bP0,aW7]
def AftSt (l:List Nd)(i m p:Nat):Prop:=p≤l.length∧skip m (l.drop p)=skip 1 (l.drop i)
theorem AftSt.lt (ht:IsTree l){m p:Nat}(hi:i<l.length)(h:AftSt l i m p)(hm:0<m):p<l.length:=by
 rcases Nat.lt_or_ge p l.length with h1|h1
 · grind
 · have h2:=h.2;rw[List.drop_eq_nil_of_le h1,(lB ht hi).2.2]at h2;obtain⟨k,rfl⟩: ∃k,m=k+1:=⟨m-1,by omega⟩;cases h2
theorem AftSt.next {m p:Nat}(h:AftSt l i (m+1) p)(hp:p<l.length):AftSt l i (m+l[p].c.toNat) (p+1):=by
 refine⟨hp,?_⟩;rw[←h.2,List.drop_eq_getElem_cons hp];rfl
theorem AftSt.fin {p:Nat}(h:AftSt l i 0 p):p=aft l i:=by
 have h2:=h.2;rw[dF]at h2;exact(aW7 h.1 h2.symm).symm
def kP (l:List Nd):Nat→Nat→List Nat
 |0,_=>[]
 |k+1,at_=>at_::kP l k (aft l at_)
def bR2 (l:List Nd)(i:Nat):List Nat:=kP l (l.getD i nd0).c.toNat (i+1)
def tJ (l:List Nd)(i:Int):List Nat:=if dS l=true∧0≤i∧i<l.length then bR2 l i.toNat else []
theorem aB0 (l:List Nd): ∀(k p:Nat),(kP l k p).length=k
 |0,_=>rfl
 |k+1,p=>by simp[kP,aB0 l k]
def eO (l:List Nd):Nat→Nat→Nat
 |0,p=>p
 |k+1,p=>eO l k (aft l p)
theorem gT (l:List Nd): ∀(k p:Nat),eO l (k+1) p=aft l (eO l k p)
 |0,p=>rfl
 |k+1,p=>gT l k (aft l p)
theorem xJ (l:List Nd): ∀(k p:Nat),kP l (k+1) p=kP l k p++[eO l k p]
 |0,p=>rfl
 |k+1,p=>by rw[kP,xJ l k];rfl
theorem iK {l:List Nd}(ht:IsTree l){i:Nat}(hi:i<l.length): ∀k,k≤l[i].c.toNat→eO l k (i+1)≤l.length∧skip (l[i].c.toNat-k) (l.drop (eO l k (i+1)))=some (l.drop (aft l i))∧i+1≤eO l k (i+1)
 |0,_=>by
  refine⟨hi,?_,Nat.le_refl _⟩;have:=(lB ht hi).2.2;rw[List.drop_eq_getElem_cons hi]at this;show skip (l[i].c.toNat-0) _=_;rw[←this,Nat.sub_zero];show _=skip (0+l[i].c.toNat) _;rw[Nat.zero_add];rfl
 |k+1,hk=>by
  obtain⟨h1,h2,h3⟩:=iK ht hi k (by omega);have hlt:eO l k (i+1)<l.length:=by
   rcases Nat.lt_or_ge (eO l k (i+1)) l.length with h|h
   · exact h
   · rw[List.drop_eq_nil_of_le h]at h2;obtain⟨q,hq⟩: ∃q,l[i].c.toNat-k=q+1:=⟨l[i].c.toNat-k-1,by omega⟩;rw[hq]at h2;cases h2
  obtain⟨a1,a2,a3⟩:=lB ht hlt;rw[gT];refine⟨a2,?_,by omega⟩;obtain⟨q,hq⟩: ∃q,l[i].c.toNat-k=1+q:=⟨l[i].c.toNat-k-1,by omega⟩;rw[hq,fW,a3]at h2;grind
theorem nU (ht:IsTree l)(hi:i<l.length){k:Nat}(hk:k<l[i].c.toNat):eO l k (i+1)<l.length:=by
 obtain⟨h1,h2,_⟩:=iK ht hi k (by omega);rcases Nat.lt_or_ge (eO l k (i+1)) l.length with h|h
 · exact h
 · rw[List.drop_eq_nil_of_le h]at h2;obtain⟨q,hq⟩: ∃q,l[i].c.toNat-k=q+1:=⟨l[i].c.toNat-k-1,by omega⟩;rw[hq]at h2;cases h2
def gY :Nat→List Nd→List Nat
 |_,[]=>[]
 |o,n::l=>if n.k=1 then o::gY (o+1) l else gY (o+1) l
def jK (l:List Nd):List Nat:=if dS l then gY 0 l else []
theorem lL : ∀(l:List Nd) (o:Nat),(gY o l).length=lv l
 |[],_=>rfl
 |n::l,o=>by
  rw[gY,lv];split
  · simp[lL l];omega
  · simp[lL l]
theorem rS : ∀(a b:List Nd) (o:Nat),gY o (a++b)=gY o a++gY (o+a.length) b
 |[],b,o=>by simp[gY]
 |n::a,b,o=>by
  simp only[List.cons_append,gY,rS a b,List.length_cons];grind
theorem aW8 (h:i<l.length):gY 0 (l.take (i+1))=gY 0 (l.take i)++(if l[i].k=1 then [i]else []):=by
 rw[List.take_succ_eq_append_getElem h,rS];have:(l.take i).length=i:=by simp;omega
 simp_all[Nat.zero_add,gY]
theorem aP1 (h:IsTree l):1≤lv l:=by
 have key: ∀(l:List Nd) (m:Nat),skip (m+1) l=some []→(∀n∈l,cH n=true)→1≤lv l:=by
  intro l;induction l with
  |nil=>intro m h;cases h
  |cons n l ih=>
   intro m h hn;have h':skip (m+n.c.toNat) l=some []:=h;obtain⟨c1,c2,c3,c4⟩:=eI (hn n List.mem_cons_self);rw[lv];split
   · omega
   · rename_i hk;have:=c4 hk;obtain⟨q,hq⟩: ∃q,m+n.c.toNat=q+1:=⟨m+n.c.toNat-1,by omega⟩;grind
 exact key l 0 h.skip h.node
def cnt (l:List Bool):Nat:=(l.filter id).length
theorem cJ3 (l:List Bool):cnt l≤l.length:=List.length_filter_le _ _
theorem aP2 (l:List Bool):cnt l.reverse=cnt l:=by simp[cnt,List.filter_reverse]
def lM (n:Nd)(l:List Bool):Bool:=if n.k=2 then cnt l==l.length else if n.k=3 then decide (1≤cnt l)else decide (n.n≤cnt l)
def evS (T:Nat)(tr:List Bool):List Nd→List Bool
 |[]=>[]
 |n::l=>if n.k=1 then tr.getD (T-lv (n::l)) false::evS T tr l else lM n ((evS T tr l).take n.c.toNat)::(evS T tr l).drop n.c.toNat
theorem aG5 {T:Nat}{tr:List Bool}: ∀(l:List Nd) (m:Nat),(∀n∈l,cH n=true)→skip m l=some []→(evS T tr l).length=m
 |[],0,_,_=>rfl
 |[],m+1,_,h=>by cases h
 |n::l,0,_,h=>by grind[dF]
 |n::l,m+1,hn,h=>by
  have h':skip (m+n.c.toNat) l=some []:=h;have ih:=aG5 (T:=T) (tr:=tr) l _ (fun x hx=>hn x (List.mem_cons_of_mem _ hx)) h';obtain⟨c1,c2,c3,c4⟩:=eI (hn n List.mem_cons_self);grind[evS,List.length_cons,List.length_drop]
def xK (l:List Nd)(tr:List Bool):Bool:=dS l&&(evS (lv l) tr l).headD false
theorem aG6 (l:List Nd)(i:Nat):lv (l.take i)+lv (l.drop i)=lv l:=by rw[←sX,List.take_append_drop]
theorem bR3 (ht:IsTree l){tr:List Bool}(hi:i<l.length):l[i].c.toNat≤(evS (lv l) tr (l.drop (i+1))).length:=by
 obtain⟨k,hk⟩:=sY l 1 ht.skip ht.node i hi;rw[List.drop_eq_getElem_cons hi]at hk;have hk':skip (k+l[i].c.toNat) (l.drop (i+1))=some []:=hk;rw[aG5 _ _ (fun n hn=>ht.node n (List.mem_of_mem_drop hn)) hk'];omega
theorem uN (c:UInt8): ∀m:aF,aS c (m++[c])=aS c m++[[]]
 |[]=>by simp[aS]
 |b::m=>by
  have ih:=uN c m;simp only[List.cons_append];rw[aS,aS];by_cases h:b=c
  · grind
  · rw[if_neg h,if_neg h,ih];grind[aS,absurd,dC]
theorem kQ {c:UInt8}: ∀{l:aF},l≠[]→(aS c l).getLast (dC c l)=[]→ ∃m,l=m++[c]
 |[],h,_=>absurd rfl h
 |b::l,_,hl=>by
  by_cases h:b=c
  ·
   subst h;have hs:aS b (b::l)=[]::aS b l:=by rw[aS,if_pos rfl]
   cases l with
   |nil=>simp_all
   |cons d l=>
    have:(aS b (d::l)).getLast (dC b _)=[]:=by
     simp only[hs]at hl;rw[List.getLast_cons (dC b _)]at hl;exact hl
    obtain⟨m,hm⟩:=kQ (l:=d::l) (by simp) this;grind
  ·
   cases hs:aS c l with
   |nil=>exact absurd hs (dC c l)
   |cons x xs=>
    have hs2:aS c (b::l)=(b::x)::xs:=by rw[aS,if_neg h,hs]
    simp only[hs2]at hl;cases xs with
    |nil=>grind
    |cons y ys=>
     have hne:l≠[]:=by rintro rfl;simp[aS]at hs
     have:(aS c l).getLast (dC c l)=[]:=by
      simp only[hs];rw[List.getLast_cons (by simp)]at hl⊢;exact hl
     obtain⟨m,hm⟩:=kQ hne this;grind
def mS (c:UInt8):List aF→aF
 |[]=>[]
 |w::l=>w++l.flatMap fun v=>c::v
theorem nV (c:UInt8): ∀l:aF,mS c (aS c l)=l
 |[]=>rfl
 |b::l=>by
  have ih:=nV c l;rw[aS];cases hs:aS c l with
  |nil=>exact absurd hs (dC c l)
  |cons x xs=>
   grind[mS]
theorem uO {c:UInt8}: ∀{w:aF},(∀b∈w,b≠c)→aS c w=[w]
 |[],_=>rfl
 |b::w,h=>by
  rw[aS,if_neg (h b List.mem_cons_self),uO fun x hx=>h x (List.mem_cons_of_mem _ hx)]
theorem xL {c:UInt8}{r:aF}: ∀{w:aF},(∀b∈w,b≠c)→aS c (w++c::r)=w::aS c r
 |[],_=>by simp only[List.nil_append];rw[aS,if_pos rfl]
 |b::w,h=>by
  simp only[List.cons_append];rw[aS,if_neg (h b List.mem_cons_self),xL fun x hx=>h x (List.mem_cons_of_mem _ hx)]
theorem nW {c:UInt8}: ∀{l:List aF},l≠[]→(∀w∈l,∀b∈w,b≠c)→aS c (mS c l)=l
 |[],h,_=>absurd rfl h
 |[w],_,h=>by grind[mS,uO,List.mem_cons_self]
 |w::v::l,_,h=>by
  have ih:=nW (c:=c) (l:=v::l) (by simp) fun x hx=>h x (List.mem_cons_of_mem _ hx);grind[mS,xL,List.mem_cons_self]
theorem aW9 (c:UInt8)(m:aF):((aS c m).flatMap fun r=>r++[c])=m++[c]:=by
 have h:=nV c m;cases hs:aS c m with
 |nil=>exact absurd hs (dC c m)
 |cons x xs=>
  rw[hs]at h;simp only[mS]at h;rw[←h];have key: ∀(x:aF) (xs:List aF),(List.flatMap (fun r=>r++[c]) (x::xs))=(x++xs.flatMap fun v=>c::v)++[c]:=by
   intro x xs;induction xs generalizing x with
   |nil=>simp
   |cons y ys ih=>
    grind
  grind
set_option maxRecDepth 20000 in
theorem aP3 {c:UInt8}(h:valH c<16):nN (valH c)=c:=by
 have key: ∀n:Fin 256,valH (UInt8.ofNat n.1)<16→nN (valH (UInt8.ofNat n.1))=UInt8.ofNat n.1:=by decide
 have:=key ⟨c.toNat,c.toNat_lt⟩;simp_all
set_option maxRecDepth 20000 in
theorem aB1 {n:Nat}(h:n<16):valH (nN n)=n:=by
 have key: ∀n:Fin 16,valH (nN n.1)=n.1:=by decide
 exact key ⟨n,h⟩
theorem bR4 {x y:UInt8}(h:okH x y=true):jI (byteH x y)=[37,x,y]:=by
 simp only[okH,Bool.and_eq_true,decide_eq_true_eq,Bool.not_eq_true']at h;obtain⟨⟨h1,h2⟩,h3⟩:=h;unfold jI;rw[h3,tC h1 h2];have e1:(16*valH x+valH y)/16=valH x:=by omega
 have e2:(16*valH x+valH y)%16=valH y:=by omega
 simp only[Bool.false_eq_true,if_false,e1,e2,aP3 h1,aP3 h2]
variable {c:UInt8}
theorem xM (h:cU c=true):jI c=[c]:=by unfold jI;grind
theorem aG7 : ∀(n:Nat) {s w:aF},s.length≤n→unB s=some w→dA w=s
 |0,s,w,hn,h=>by simp_all[List.eq_nil_of_length_eq_zero,unB,Option.some.injEq]
 |n+1,[],w,_,h=>by simp_all[unB,Option.some.injEq]
 |n+1,c::l,w,hn,h=>by
  simp only[List.length_cons]at hn;by_cases hp:cU c=true
  · rw[oS hp,Option.map_eq_some_iff]at h;obtain⟨w',h',rfl⟩:=h;have ih:=aG7 n (by omega) h';grind[dA,xM]
  ·
   have hp:cU c=false:=by simpa using hp
   by_cases hc:c=37
   ·
    subst hc
    match l,h with
    |[],h=>grind[vL]
    |[x],h=>grind[vL]
    |x::y::l',h=>
     by_cases ho:okH x y=true
     · rw[aF7 ho,Option.map_eq_some_iff]at h;obtain⟨w',h',rfl⟩:=h;have ih:=aG7 n (by grind) h';grind[dA,bR4]
     grind[uI]
   grind[vL]
variable {s:aF}
theorem cB9 {w:aF}(h:unW s=some w):iE w=s:=by
 unfold unW at h;split at h
 · rename_i hs;cases h;rw[hs];rfl
 ·
  split at h
  · cases h
  · rename_i h1 h2;have:=aG7 _ (Nat.le_refl _) h;unfold iE;rw[if_neg (cJ0 h2 h),this]
theorem aB2 : ∀w:aF,unB (dA w)=some w
 |[]=>rfl
 |c::w=>by
  have ih:=aB2 w;have e:dA (c::w)=jI c++dA w:=by simp[dA]
  rw[e];by_cases hp:cU c=true
  · grind[xM,oS]
  ·
   have hp:cU c=false:=by simpa using hp
   have hlt:=c.toNat_lt;have h1:valH (nN (c.toNat/16))=c.toNat/16:=aB1 (by omega);have h2:valH (nN (c.toNat%16))=c.toNat%16:=aB1 (by omega);have hb:byteH (nN (c.toNat/16)) (nN (c.toNat%16))=c:=by
    unfold byteH;rw[h1,h2,Nat.div_add_mod];exact UInt8.ofNat_toNat
   have ho:okH (nN (c.toNat/16)) (nN (c.toNat%16))=true:=by
    simp only[okH,hb,hp,h1,h2,Bool.and_eq_true,decide_eq_true_eq,Bool.not_false,and_true];omega
   grind[jI,nN,aF7]
variable {b:UInt8}
theorem aB3 (h:b∈jI c):b≠10∧b≠32∧b≠126:=by
 unfold jI at h;split at h
 · rename_i hp;simp only[List.mem_singleton]at h;subst h;refine⟨?_,?_,?_⟩<;>(rintro rfl;revert hp;decide)
 ·
  have key: ∀n:Nat,nN n≠10∧nN n≠32∧nN n≠126:=by
   intro n;unfold nN;rcases Nat.lt_or_ge n 16 with hn|hn
   ·
    have: ∀n:Fin 16,([48,49,50,51,52,53,54,55,56,57,65,66,67,68,69,70]:List UInt8).getD n.1 0≠10∧([48,49,50,51,52,53,54,55,56,57,65,66,67,68,69,70]:List UInt8).getD n.1 0≠32∧([48,49,50,51,52,53,54,55,56,57,65,66,67,68,69,70]:List UInt8).getD n.1 0≠126:=by decide
    exact this ⟨n,hn⟩
   · simp_all
  grind
theorem tK {w:aF}(h:b∈iE w):b≠10∧b≠32:=by
 unfold iE at h;split at h
 · grind
 · obtain⟨c,_,hc⟩:=List.mem_flatMap.1 h;grind[aB3]
theorem bR5 (w:aF):unW (iE w)=some w:=by
 unfold iE;split
 · rename_i h;subst h;rfl
 ·
  rename_i h;have hne:dA w≠[]:=by
   intro he;have:=aM4 w;rw[he]at this;exact h (List.eq_nil_of_length_eq_zero (by grind))
  have h126:dA w≠[126]:=by
   intro he;have hm:(126:UInt8)∈dA w:=by rw[he];simp
   obtain⟨c,_,hc⟩:=List.mem_flatMap.1 hm;exact(aB3 hc).2.2 rfl
  simp_all[unW,if_neg,aB2]
theorem oX {α β:Type}{f:α→Option β}: ∀{l:List α} {m:List β},l.mapM f=some m→(∀{g:β→α},(∀x y,f x=some y→g y=x)→m.map g=l)∧m.length=l.length
 |[],m,h=>by grind
 |a::l,m,h=>by
  rw[List.mapM_cons]at h;cases ha:f a with
  |none=>grind
  |some b=>
   rw[ha]at h;cases hl:l.mapM f with
   |none=>grind
   |some m'=>
    rw[hl]at h;cases h;obtain⟨h1,h2⟩:=oX hl;grind
theorem aB4 (l:List aF):gS l=mS 32 (l.map iE):=by
 cases l with
 |nil=>rfl
 |cons w l=>simp[gS,mS,List.flatMap_map]
variable {r:aF}
theorem cC0 {ws:List aF}(h:unL r=some ws):gS ws=r:=by
 have:=(oX h).1 (g:=iE) fun x y h=>cB9 h;rw[aB4,this,nV]
theorem aB5 : ∀l:List aF,(l.map iE).mapM unW=some l
 |[]=>rfl
 |w::l=>by rw[List.map_cons,List.mapM_cons,bR5,aB5 l];rfl
theorem bR6 {l:List aF}(h:l≠[]):unL (gS l)=some l:=by
 unfold unL;rw[aB4,nW (by simp_all) (by
  intro w hw b hb;obtain⟨v,_,rfl⟩:=List.mem_map.1 hw;exact(tK hb).2),aB5]
theorem bI7 {l:List aF}(h:b∈gS l):b≠10:=by
 cases l with
 |nil=>simp at h
 |cons w l=>
  simp only[gS,List.mem_append,List.mem_flatMap]at h;rcases h with h|⟨v,_,h⟩
  · exact(tK h).1
  · rcases List.mem_cons.1 h with rfl|h;all_goals grind[tK]
variable {ls:List (List aF)}
theorem bI8 (h:ls≠[]):fX ls=mS 10 (ls.map gS)++[10]:=by
 cases ls with
 |nil=>grind
 |cons l ls=>
  have key: ∀(l:List aF) (ls:List (List aF)),fX (l::ls)=mS 10 ((l::ls).map gS)++[10]:=by
   intro l ls;induction ls generalizing l with
   |nil=>simp[fX,mS,yQ]
   |cons k ls ih=>
    grind[fX,yQ,mS]
  grind
theorem oY (m:aF):gF (m++[10])=(aS 10 m).mapM unR:=by simp_all[uN,gF,if_neg,if_pos,List.dropLast_concat]
theorem bI9 (h: ∀l∈ls,okL l=true):gF (fX ls)=some ls:=by
 by_cases hne:ls=[]
 · subst hne;simp[gF]
 ·
  rw[bI8 hne,oY,nW (by simpa using hne) (by
   intro w hw b hb;obtain⟨l,_,rfl⟩:=List.mem_map.1 hw;exact bI7 hb)]
  clear hne;induction ls with
  |nil=>rfl
  |cons l ls ih=>
   have hl:=h l List.mem_cons_self;have hr:unR (gS l)=some l:=by
    unfold unR;rw[bR6 ((kM l).1 hl).1];simp only[hl,if_true]
   rw[List.map_cons,List.mapM_cons,hr,ih fun x hx=>h x (List.mem_cons_of_mem _ hx)];rfl
variable {rs:List aF}
theorem aP4 (h:rs.mapM unL=some ls):rs.mapM unR=if ls.all okL then some ls else none:=by
 induction rs generalizing ls with
 |nil=>grind
 |cons r rs ih=>
  rw[List.mapM_cons]at h;cases hr:unL r with
  |none=>grind
  |some l=>
   rw[hr]at h;cases hl:rs.mapM unL with
   |none=>grind
   |some m=>
    rw[hl]at h;cases h;rw[List.mapM_cons,ih hl];unfold unR;rw[hr];simp only[List.all_cons];by_cases h1:okL l=true
    · grind
    grind
theorem pO (h:rs.mapM unL=none):rs.mapM unR=none:=by
 induction rs with
 |nil=>grind
 |cons r rs ih=>
  rw[List.mapM_cons]at h⊢;cases hr:unL r with
  |none=>unfold unR;grind
  |some l=>
   rw[hr]at h;have:rs.mapM unL=none:=by
    cases hl:rs.mapM unL with
    |none=>rfl
    |some m=>rw[hl]at h;cases h
   rw[ih this];cases unR r<;>rfl
variable {m:aF}
theorem aB6 (h:(aS 10 m).mapM unL=some ls):fX ls=m++[10]:=by
 have h1:=(oX h).1 (g:=gS) fun x y h=>cC0 h;have h2:=aW9 10 m;rw[←h1]at h2;rw[←h2];simp only[fX,List.flatMap_map];rfl
theorem bJ0 {b:aF}(hb: ¬262144<b.length)(hne:b≠[])(h:b.getD (b.length-1) 0≠10):eG b=2:=by
 have:gF b=none:=by
  unfold gF;rw[if_neg hne,if_neg];intro hl;obtain⟨m,rfl⟩:=kQ hne hl;simp at h
 unfold eG;rw[if_neg hb,this]
theorem bJ1 (hb: ¬262144<(m++[10]).length)(h:(aS 10 m).mapM unL=none):eG (m++[10])=2:=by
 unfold eG;rw[if_neg hb,oY,pO h]
theorem bR7 (hb: ¬262144<(m++[10]).length)(h:(aS 10 m).mapM unL=some ls):(iY ls=0→eG (m++[10])=0∧decO (m++[10])=ls)∧(iY ls≠0→eG (m++[10])=2):=by
 have hd:=aB6 h;have hv:=aP4 h;rw[←oY]at hv;by_cases hk:ls.all okL=true
 ·
  rw[if_pos hk]at hv;have hE:eG (m++[10])=if 1000<ls.length then 2 else 0:=by unfold eG;rw[if_neg hb,hv]
  by_cases hl:1000<ls.length
  · rw[if_pos hl]at hE;exact⟨fun he=>absurd (he.symm.trans (tA hl)) (by decide),fun _=>hE⟩
  ·
   rw[if_neg hl]at hE;have he:iY ls=0:=by
    rw[vJ (by omega) (by simpa using hk),hd,if_neg hb]
   exact⟨fun _=>⟨hE,by unfold decO;rw[if_pos hE,hv];rfl⟩,fun hn=>absurd he hn⟩
 ·
  rw[if_neg hk]at hv;have hE:eG (m++[10])=2:=by unfold eG;rw[if_neg hb,hv]
  refine⟨fun he=>?_,fun _=>hE⟩;exfalso;apply hk;unfold iY at he;split at he
  · cases he
  ·
   split at he
   · rename_i l hf;have:=List.find?_some hf;exact absurd he (bB4 (by simpa using this))
   · rename_i hf;rw[List.find?_eq_none]at hf;rw[List.all_eq_true];intro l hl;simpa using hf l hl
def lsT (rows:List aF)(i:Nat):List (List aF):=(rows.take i).map fun r=>(unL r).getD []
variable {rows:List aF}
theorem bR8 (h:i<rows.length):lsT rows (i+1)=lsT rows i++[(unL rows[i]).getD []]:=by
 simp only[lsT,List.take_succ_eq_append_getElem h,List.map_append,List.map_cons,List.map_nil]
theorem aX0 (h:i≤rows.length):(lsT rows i).length=i:=by
 simp only[lsT,List.length_map,List.length_take];omega
theorem bR9 (h:i<(aS 32 r).length)(h2:(unW (aS 32 r)[i]).isSome=false):unL r=none:=
 oT (List.getElem_mem h) (by simpa using h2)
theorem cC1 (h:aM8 r (aS 32 r).length):unL r=some (wsT r (aS 32 r).length):=by
 unfold aM8 at h;rw[List.take_length]at h;unfold unL;rw[rG [] h];simp only[wsT,List.take_length]
theorem cC2 (h: ∀r∈rows.take rows.length,(unL r).isSome=true):rows.mapM unL=some (lsT rows rows.length):=by
 rw[List.take_length]at h;rw[rG [] h];simp only[lsT,List.take_length]
variable {n:Nat}
theorem bS0 (h: ∀r∈rows,r.length<n): ∀l∈lsT rows rows.length,l.length<n+1:=by
 intro l hl;simp only[lsT,List.take_length,List.mem_map]at hl;obtain⟨r,hr,rfl⟩:=hl;have h1:=h r hr;cases hu:unL r with
 |none=>simp
 |some ws=>
  have:=(oX hu).2;have h2:=eQ 32 r;simp only[Option.getD_some];omega
@[simp] theorem cM0 (l:List W32)(i:Nat)(x:W32):CV.agg ((l.map w32).set i (w32 x))=ws (l.set i x):=by rw[←List.map_set];rfl
@[simp] theorem cM1 (l:List UInt8)(i:Nat)(x:UInt8):CV.agg ((l.map u8).set i (u8 x))=us (l.set i x):=by rw[←List.map_set];rfl
@[simp] theorem cQ5 (b:List UInt8):wA b 0=wz 64:=rfl
@[simp] theorem cQ6 (w:List W32):wB w 0=w:=rfl
def cR4 (s r:St)(j:Nat):List W32:=(s.l.zipWith (fun x y=>x+y) r.l).take j++s.l.drop j
@[simp] theorem cM2 (s r:St):cR4 s r 0=s.l:=rfl
section
variable {b:List UInt8}{j:Nat}(h0:64*j≤b.length)(h1:b.length<64*j+64)
include h0 h1
end
section
variable {b:List UInt8}{j:Nat}(h0:64*j≤b.length)(h1:b.length<64*j+64)
include h0 h1
end
@[simp] theorem cQ7 (l:List UInt8):CV.agg (l.map u8)=us l:=rfl
def ob8 (s:St)(i:Nat):UInt8:=UInt8.ofNat ((gw s.l (i/4))>>>(24-8*(i%4))).toNat
def cR5 (s:St)(n:Nat):List UInt8:=itN (fun i l=>l.set i (ob8 s i)) n (uz 32)
@[simp] theorem cM3 (s:St):cR5 s 0=uz 32:=rfl
def cR6 (h:yP):aF:=cI8 h.1
def cR7 (d:Dig):aF:=[115,104,97,50,53,54,58]++cI8 d.1
def numW (n:Int):aF:=Lib.itoa n
theorem aP5 {n:Int}(h:0≤n):numW n=Lib.decDigits n.natAbs:=by unfold numW Lib.itoa;rw[if_neg (by omega)];congr 1;omega
inductive Av where
 |i (n:Int)
 |l (n:Int)
 |h (x:yP)
 |d (x:Dig)
 |s (w:aF)
def Av.w :Av→aF
 | .i n=>numW n
 | .l n=>numW n
 | .h x=>cR6 x
 | .d x=>cR7 x
 | .s w=>w
def Av.ok :Av→Prop
 | .i n=> -9223372036854775808≤n∧n≤9223372036854775807
 | .l n=> -9223372036854775808≤n∧n≤9223372036854775807
 |_=>True
def cC3 (c:UInt8):Nat:=if 48≤c.toNat∧c.toNat≤57 then c.toNat-48 else if 97≤c.toNat∧c.toNat≤102 then c.toNat-87 else 16
def hX (s:aF)(i:Nat):UInt8:=s.getD (2*i) 0
def hY (s:aF)(i:Nat):UInt8:=s.getD (2*i+1) 0
def hB (s:aF)(i:Nat):UInt8:=UInt8.ofNat (16*cC3 (hX s i)+cC3 (hY s i))
def hOk (s:aF)(i:Nat):Bool:=decide (cC3 (hX s i)<16)&&decide (cC3 (hY s i)<16)
def nX (s:aF)(n:Nat):Option (List UInt8):=if s.length=2*n∧(List.range n).all (hOk s)=true then some ((List.range n).map (hB s))else none
def UhSt (s:aF)(n i:Nat)(l:List UInt8):Prop:=l.length=n∧i≤n∧l.take i=(List.range i).map (hB s)∧ ∀j,j<i→hOk s j=true
theorem UhSt.init (s:aF){l:List UInt8}(h:l.length=n):UhSt s n 0 l:=⟨h,Nat.zero_le _,by simp,fun j hj=>by omega⟩
theorem UhSt.next {l:List UInt8}(h:UhSt s n i l)(hi:i<n)(hk:hOk s i=true):UhSt s n (i+1) (l.set i (hB s i)):=by
 obtain⟨h1,h2,h3,h4⟩:=h;refine⟨by simpa using h1,hi,?_,fun j hj=>?_⟩
 · rw[List.take_succ_eq_append_getElem (by rw[List.length_set];omega),List.getElem_set_self,List.take_set_of_le (Nat.le_refl _),h3,List.range_succ,List.map_append];rfl
 ·
  rcases Nat.lt_or_ge j i with h'|h'
  · exact h4 j h'
  ·
   have:j=i:=by omega
   rw[this];exact hk
theorem UhSt.fin {l:List UInt8}(h:UhSt s n n l)(hs:s.length=2*n):nX s n=some l:=by
 obtain⟨h1,h2,h3,h4⟩:=h;unfold nX;rw[if_pos ⟨hs,by rw[List.all_eq_true];intro j hj;exact h4 j (List.mem_range.1 hj)⟩,←h3,List.take_of_length_le (by omega)]
theorem UhSt.bad {l:List UInt8}(_:UhSt s n i l)(hi:i<n)(hk:hOk s i=false):nX s n=none:=by
 unfold nX;rw[if_neg];rintro⟨_,h⟩;have:=List.all_eq_true.1 h i (List.mem_range.2 hi);rw[hk]at this;cases this
theorem pP {l:List UInt8}(h:nX s n=some l):l.length=n:=by
 unfold nX at h;split at h
 · cases h;simp
 · cases h
def cO3 (s p:aF):Bool:=decide (p.length≤s.length)&&(s.take p.length==p)
def cO4 (s:aF):Option yP:=match h:nX s 16 with|some l=>some ⟨l,pP h⟩|none=>none
def cR8 :aF:=[115,104,97,50,53,54,58]
def cR9 (s:aF):Option Dig:=if cO3 s cR8 then match h:nX (s.drop 7) 32 with|some l=>some ⟨l,pP h⟩|none=>none else none
end Go.Pl
