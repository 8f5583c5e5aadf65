/- Digests and root documents out of words (1.4, 11.2), in plain Lean. By an AI agent. -/
import Derived.Test.YtlldglbooaefhaaGreatDoorHzU1
import Derived.Test.YtlldglbooaefhaaGreatDoorHlTlaw
import Derived.Test.YtlldglbooaefhaaGreatDoorHlIt
import Derived.Test.YtlldglbooaefhaaGreatDoorHlZb
import Derived.Lib.ItoaLen
set_option linter.unusedSimpArgs false
set_option linter.unusedVariables false
set_option linter.defProp false
namespace Go.Proofs.YtlldglbooaefhaaGreatDoor
open Go Go.Hl Go.Pl
set_option maxRecDepth 10000
set_option maxHeartbeats 16000000
theorem aO6 (l:List aF)(hl:l.length<2^40):cG Tryz.prog 79 [.slc (l.map .str)] (fun v=>v= .int .i64 (mF l)):=by
 refine FW Tryz.func79 ?_;refine R0 ?_;refine aB fun K hK=>?_;refine aN ?_;refine aB fun K hK=>Rg ?_;iterate 4 refine S0 ?_
 refine T2 (hK _ _ _ ?_);clear hK K;refine aG (b:=(l.length:Int)==0) rfl (fun hb=>?_) (fun hb=>?_)
 · refine R0 ?_;refine aE (RT Tryz.results79 ?_);exact aH [] (.int .i64 1) rfl (by rw[mF,if_pos (by simp at hb;simp[hb])])
 have hn0:l.length≠0:=by simp at hb;simp[hb]
 clear hb;refine aB fun K hK=>Rg ?_;iterate 4 refine S0 ?_
 refine T2 (hK _ _ _ ?_);clear hK K;refine aG (b:=decide ((120:Int)<l.length)) rfl (fun hb=>?_) (fun hb=>?_)
 · refine R0 ?_;refine aE (RT Tryz.results79 ?_);exact aH [] (.int .i64 3) rfl (by rw[mF,if_neg hn0,if_pos (by simp at hb;omega)])
 refine aJ ?_;refine T0 (hK _ _ _ ?_);clear hK K;refine aB fun K hK=>?_;have hn1:l.length≤120:=by simp at hb;omega
 clear hb;refine R0 ?_;refine aN ?_;refine bS (α:={i:Nat//i≤l.length∧ ∀x∈l.take i,decide (32768<x.length)=false}) (fun i=>(fin [(13,.c (.slc (l.map .str))),(14,.c (.int .i64 l.length)),(15,.c (.int .i64 i.1))],fob [])) 100 (fun i=>l.length-i.1) ⟨0,by omega,by simp⟩ (fF) ?_;rintro⟨i,hi,h0⟩;refine R0 ?_;refine aB fun K hK=>?_;refine aG (b:=decide ((i:Int)<l.length)) rfl (fun hb=>?_) (fun hb=>?_)
 ·
  have hlt:i<l.length:=by simpa using hb
  clear hb;refine aJ ?_;refine T0 (hK _ _ _ ?_);clear hK K;refine aB fun K hK=>?_;refine aN ?_;have F:=aI @Int.natCast_nonneg (aI @Int.ofNat_lt (aI hlt (nM hlt)));refine RF ?_;refine R0 ?_;refine aG (b:=decide ((32768:Int)<l[i].length)) rfl (fun hb=>?_) (fun hb=>?_)
  · refine R0 ?_;refine aE (RT Tryz.results79 ?_);exact aH [] (.int .i64 3) rfl (by rw[mF,if_neg hn0,if_neg (by omega),if_pos];simp only[List.any_eq_true,decide_eq_true_eq];exact⟨_,List.getElem_mem hlt,by simp at hb;omega⟩)
  refine aJ ?_;refine T0 (hK _ _ _ ?_);clear hK K;refine aK (by kernel_rfl) ?_;refine TQ (iH i) ?_;have hb2:decide (32768<l[i].length)=false:=by simp at hb⊢;omega
  refine⟨⟨i+1,hlt,bI0 (p:=fun x=>decide (32768<x.length)) hlt hb2 h0⟩,fF,?_⟩;show l.length-(i+1)<l.length-i;omega
 refine bI (T3 ?_);clear hK K;refine AX (hK _ _ _ ?_);clear hK K;refine R0 ?_;refine aE (RT Tryz.results79 ?_);have hei:i=l.length:=by simp at hb;omega
 subst hei;rw[List.take_length]at h0;exact aH [] (.int .i64 0) rfl (by rw[mF,if_neg hn0,if_neg (by omega),if_neg];simp only[List.any_eq_true,not_exists,not_and];intro x hx;simp[h0 x hx])
theorem cK0 (ls:List (List aF))(h0:ls.length<2^40)(h1: ∀l∈ls,l.length<2^40):gT Tryz.prog 53 [.slc (ls.map fun l=> .slc (l.map .str))] (fun u v=>u= .slc ((mG ls).map dM)∧v= .int .i64 (iB ls)):=by
 refine FW Tryz.func53 ?_;refine R0 ?_;refine aB fun K hK=>?_;refine R0 ?_;refine aG (b:=decide ((1000:Int)<ls.length)) rfl (fun hb=>?_) (fun hb=>?_)
 · refine R0 ?_;refine aE (RT Tryz.results53 ?_);have hE:=tC (ls:=ls) (by simp at hb;omega);refine aO [] (.slc []) (.int .i64 3) ?_ ⟨by rw[iV (by rw[hE];decide)];rfl,by rw[hE]⟩;simp[HV.close,HV.closeL,CV.denil,CV.denilL,HV.norm,HV.toC,HV.toCL]
 refine aJ ?_;refine T0 (hK _ _ _ ?_);clear hK K;refine aB fun K hK=>?_;have hn:ls.length≤1000:=by simp at hb;omega
 clear hb;refine R0 ?_;refine aN ?_;refine bS (α:={i:Nat//i≤ls.length∧ ∀x∈ls.take i,okL x=true}) (fun i=>(fin [(0,.c (.slc (ls.map fun l=> .slc (l.map .str)))),(20,.c (.slc (ls.map fun l=> .slc (l.map .str)))),(21,.c (.int .i64 ls.length)),(22,.c (.int .i64 i.1))],fob [])) 100 (fun i=>ls.length-i.1) ⟨0,by omega,by simp⟩ (fF) ?_;rintro⟨i,hi,hk⟩;refine R0 ?_;refine aB fun K hK=>?_;refine aG (b:=decide ((i:Int)<ls.length)) rfl (fun hb=>?_) (fun hb=>?_)
 ·
  have hlt:i<ls.length:=by simpa using hb
  clear hb;have hl1:=h1 ls[i] (List.getElem_mem hlt);refine aJ ?_;refine T0 (hK _ _ _ ?_);clear hK K;refine aB fun K hK=>?_;refine aN ?_;have F:=aI @Int.natCast_nonneg (aI @Int.ofNat_lt (aI hlt (nM hlt)));refine RF ?_;refine aB fun K hK=>Rg ?_;refine S0 ?_;refine HS rfl rfl fun K' hK'=>T5 ?_;refine C1 (aO6 ls[i] hl1) ?_;rintro u rfl;refine AX (hK' _ _ ?_);clear hK' K';refine S0 ?_;refine T2 (hK _ _ _ ?_);clear hK K;refine R0 ?_;refine aG (b:=mF ls[i] !=0) rfl (fun hb=>?_) (fun hb=>?_)
  · refine R0 ?_;refine aE (RT Tryz.results53 ?_);have hE:=rG hn hlt hk (by simpa[okL]using hb);refine aO [] (.slc []) (.int .i64 (mF ls[i])) ?_ ⟨by rw[iV (by rw[hE];simpa using hb)];rfl,by rw[hE]⟩;simp[HV.close,HV.closeL,CV.denil,CV.denilL,HV.norm,HV.toC,HV.toCL]
  refine aJ ?_;refine T0 (hK _ _ _ ?_);clear hK K;refine aK (by kernel_rfl) ?_;refine TQ (iH i) ?_;refine⟨⟨i+1,hlt,?_⟩,fF,?_⟩
  ·
   intro x hx;rw[List.take_succ_eq_append_getElem hlt,List.mem_append,List.mem_singleton]at hx;rcases hx with hx|rfl
   · exact hk x hx
   simpa[okL]using hb
  show ls.length-(i+1)<ls.length-i;omega
 have hei:i=ls.length:=by simp at hb;omega
 subst hei;clear hb;rw[List.take_length]at hk;have hne: ∀l∈ls,l≠[]:=fun l hl=>((kQ l).1 (hk l hl)).1;have hsd:=bB4 hk;have hdl:=rE hne;have hE:=vK hn hk;have hst: ∀j,sumD (ls.take j)≤sumD ls:=fun j=>aF7 ls j;have hdt: ∀j,(fY (ls.take j)).length≤sumD ls:=fun j=>by rw[rE fun l hl=>hne l (List.mem_of_mem_take hl)];exact hst j
 refine bI (T3 ?_);clear hK K;refine AX (hK _ _ _ ?_);clear hK K;refine R0 ?_;refine aB fun K hK=>?_;refine R0 ?_;refine aN ?_;refine bS (α:={i:Nat//i≤ls.length}) (fun i=>(fin [(0,.c (.slc (ls.map fun l=> .slc (l.map .str)))),(7,.c (.int .i64 (sumD (ls.take i.1):Nat))),(32,.c (.slc (ls.map fun l=> .slc (l.map .str)))),(33,.c (.int .i64 ls.length)),(34,.c (.int .i64 i.1))],fob [])) 200 (fun i=>ls.length-i.1) ⟨0,by omega⟩ (fF) ?_;rintro⟨i,hi⟩;refine R0 ?_;refine aB fun K hK=>?_;refine aG (b:=decide ((i:Int)<ls.length)) rfl (fun hb=>?_) (fun hb=>?_)
 ·
  have hlt:i<ls.length:=by simpa using hb
  clear hb;have hst1:=bH3 hlt;have hst2:=hst (i+1);obtain⟨l,hl⟩: ∃l,l=ls[i]:=⟨_,rfl⟩;obtain⟨hl0,hl1,hl2⟩:=(kQ l).1 (hk l (by rw[hl];exact List.getElem_mem hlt));have hln:nth (ls.map fun l=>CV.slc (l.map .str)) i= .slc (l.map .str):=by rw[bR hlt,hl]
  rw[←hl]at hst1;refine aJ ?_;refine T0 (hK _ _ _ ?_);clear hK K;refine aB fun K hK=>?_;refine aN ?_;have F:=aI @Int.natCast_nonneg (aI @Int.ofNat_lt (aI hlt hln));refine RF ?_;refine R0 ?_;refine aN ?_;refine bS (α:={i:Nat//i≤l.length}) (fun k=>(fin [(0,.c (.slc (ls.map fun l=> .slc (l.map .str)))),(7,.c (.int .i64 (sumD (ls.take i)+iU (l.take k.1):Nat))),(32,.c (.slc (ls.map fun l=> .slc (l.map .str)))),(33,.c (.int .i64 ls.length)),(34,.c (.int .i64 i)),(38,.c (.slc (l.map .str))),(39,.c (.int .i64 l.length)),(40,.c (.int .i64 k.1))],fob [])) 300 (fun k=>l.length-k.1) ⟨0,by omega⟩ (fF) ?_;rintro⟨k,hk'⟩;refine R0 ?_;refine aB fun K hK=>?_;refine aG (b:=decide ((k:Int)<l.length)) rfl (fun hb=>?_) (fun hb=>?_)
  ·
   have hlk:k<l.length:=by simpa using hb
   clear hb;have hlt1:=bH2 hlk;have hlt2:=rF l (k+1);have hw2:=hl2 l[k] (List.getElem_mem hlk);refine aJ ?_;refine T0 (hK _ _ _ ?_);clear hK K;refine aB fun K hK=>?_;refine aN ?_;have F:=aI @Int.natCast_nonneg (aI @Int.ofNat_lt (aI hlk (nM hlk)));refine RF ?_;refine Rg ?_;have F:=aI (IntWalk.i64_in _ (show-9223372036854775808≤((sizeW l[k]:Nat):Int)+1∧((sizeW l[k]:Nat):Int)+1≤9223372036854775807 by omega)) (IntWalk.i64_in _ (show-9223372036854775808≤((sumD (ls.take i)+iU (l.take k):Nat):Int)+(((sizeW l[k]:Nat):Int)+1)∧((sumD (ls.take i)+iU (l.take k):Nat):Int)+(((sizeW l[k]:Nat):Int)+1)≤9223372036854775807 by omega));iterate 2 refine SF ?_
   refine HS rfl rfl fun K' hK'=>T6 ?_;refine C1 (bC6 l[k] (by omega)) ?_;rintro u rfl;refine AX (hK' _ _ ?_);clear hK' K';iterate 3 refine SF ?_
   refine T2 (hK _ _ _ ?_);clear hK K;refine aK (by kernel_rfl) ?_;refine TQ (iH k) ?_;have he:((sumD (ls.take i)+iU (l.take k):Nat):Int)+(((sizeW l[k]:Nat):Int)+1)=((sumD (ls.take i)+iU (l.take (k+1)):Nat):Int):=by omega
   simp only[he];refine⟨⟨k+1,hlk⟩,fF,?_⟩;show l.length-(k+1)<l.length-k;omega
  have hek:k=l.length:=by simp at hb;omega
  subst hek;clear hb;refine bI (T3 ?_);clear hK K;refine AX (hK _ _ _ ?_);clear hK K;refine aK (by kernel_rfl) ?_;refine TQ (iH i) ?_;have he:((sumD (ls.take i)+iU (l.take l.length):Nat):Int)=((sumD (ls.take (i+1)):Nat):Int):=by rw[List.take_length];omega
  simp only[he];refine⟨⟨i+1,hlt⟩,fF,?_⟩;show ls.length-(i+1)<ls.length-i;omega
 have hei:i=ls.length:=by simp at hb;omega
 subst hei;clear hb;refine bI (T3 ?_);clear hK K;refine AX (hK _ _ _ ?_);clear hK K;refine aB fun K hK=>?_;have F:=@List.take_length.{0};refine RF ?_;refine aG (b:=decide ((262144:Int)<(sumD ls:Nat))) rfl (fun hb=>?_) (fun hb=>?_)
 · refine R0 ?_;refine aE (RT Tryz.results53 ?_);rw[if_pos (by rw[hdl];simp at hb;omega)]at hE;refine aO [] (.slc []) (.int .i64 3) ?_ ⟨by rw[iV (by rw[hE];decide)];rfl,by rw[hE]⟩;simp[HV.close,HV.closeL,CV.denil,CV.denilL,HV.norm,HV.toC,HV.toCL]
 refine aJ ?_;refine T0 (hK _ _ _ ?_);clear hK K;have hle:sumD ls≤262144:=by simp at hb;omega
 have hz:((sumD ls:Nat):Int)≤140737488355328:=by omega
 clear hb;rw[if_neg (by rw[hdl];omega)]at hE;have hO:=vL hE;have F:=aI @Int.natCast_nonneg (aI hz (aI @Int.mul_one @List.take_length.{0}));refine RF ?_;refine aB fun K hK=>?_;refine R0 ?_;refine aN ?_;refine bS (α:={i:Nat//i≤ls.length}) (fun i=>(fin [(12,.own 216 (fY (ls.take i.1)).length),(55,.c (.slc (ls.map fun l=> .slc (l.map .str)))),(56,.c (.int .i64 ls.length)),(57,.c (.int .i64 i.1))],fob [(216,.row 5 1 ((fY (ls.take i.1)).map dM))])) 400 (fun i=>ls.length-i.1) ⟨0,by omega⟩ (fF) ?_;rintro⟨i,hi⟩;refine R0 ?_;refine aB fun K hK=>?_;refine aG (b:=decide ((i:Int)<ls.length)) rfl (fun hb=>?_) (fun hb=>?_)
 ·
  have hlt:i<ls.length:=by simpa using hb
  clear hb;have hdt1:=zY hlt;have hdt0:=hdt i;obtain⟨l,hl⟩: ∃l,l=ls[i]:=⟨_,rfl⟩;have hok:=hk l (by rw[hl];exact List.getElem_mem hlt);have hsl:=bB3 hok;obtain⟨hl0,hl1,hl2⟩:=(kQ l).1 hok;have hln:nth (ls.map fun l=>CV.slc (l.map .str)) i= .slc (l.map .str):=by rw[bR hlt,hl]
  rw[←hl]at hdt1;refine aJ ?_;refine T0 (hK _ _ _ ?_);clear hK K;refine aB fun K hK=>?_;refine aN ?_;have F:=aI @Int.natCast_nonneg (aI @Int.ofNat_lt (aI hlt hln));refine RF ?_;refine aB fun K hK=>?_;refine R0 ?_;refine aN ?_;refine bS (α:={i:Nat//i≤l.length}) (fun k=>(fin [(12,.own 216 (fY (ls.take i)++gS (l.take k.1)).length),(55,.c (.slc (ls.map fun l=> .slc (l.map .str)))),(56,.c (.int .i64 ls.length)),(57,.c (.int .i64 i)),(61,.c (.slc (l.map .str))),(62,.c (.int .i64 l.length)),(63,.c (.int .i64 k.1))],fob [(216,.row 5 1 ((fY (ls.take i)++gS (l.take k.1)).map dM))])) 500 (fun k=>l.length-k.1) ⟨0,by omega⟩ (fF) ?_;rintro⟨k,hk'⟩;have hsw:=bB2 (l.take k);have hst2:=rF l k;refine R0 ?_;refine aB fun K hK=>?_;refine aG (b:=decide ((k:Int)<l.length)) rfl (fun hb=>?_) (fun hb=>?_)
  ·
   have hlk:k<l.length:=by simpa using hb
   clear hb;have hw2:=hl2 l[k] (List.getElem_mem hlk);have hel:=rD l[k];have hsz:=nP l[k];have hsp:=zW l[k];have hpe:0<(iG l[k]).length:=by omega
   have htk:=zX hlk;have hbe:(fY (ls.take i)).length+(gS (l.take k)).length+(iG l[k]).length≤140737488355328:=by omega
   have hbe1:(fY (ls.take i)).length+(gS (l.take k)).length+1+(iG l[k]).length≤140737488355328:=by omega
   refine aJ ?_;refine T0 (hK _ _ _ ?_);clear hK K;refine aB fun K hK=>?_;refine aN ?_;refine aB fun K hK=>Rg ?_;have F:=aI @Int.natCast_nonneg (aI @Int.ofNat_lt (aI hlk (nM hlk)));iterate 5 refine SF ?_
   refine T2 (hK _ _ _ ?_);clear hK K;refine aB fun K hK=>?_;refine R0 ?_;refine aG (b:=decide ((0:Int)<k)) rfl (fun hb=>?_) (fun hb=>?_)
   ·
    refine Rg ?_;have F:=aI @List.length_append.{0} @List.length_map.{0,0};iterate 4 refine SF ?_
    refine T2 (hK _ _ _ ?_);clear hK K;refine Rg ?_;have F:=aI @List.length_append.{0} (aI @List.length_map.{0,0} (aI hpe (aI hbe hbe1)));iterate 2 refine SF ?_
    refine HS rfl rfl fun K' hK'=>T6 ?_;refine C1 (bC7 l[k] (by omega)) ?_;rintro u rfl;refine AX (hK' _ _ ?_);clear hK' K';iterate 2 refine SF ?_
    refine T2 (hK _ _ _ ?_);clear hK K;refine aK (by kernel_rfl) ?_;refine TQ (iH k) ?_;have hk0:k≠0:=by simp at hb;omega
    refine⟨⟨k+1,hlk⟩,aL (by omega) ?_ ?_,?_⟩
    · rw[htk,if_neg hk0];simp[aY,upd_at,fin_at,HV.men];omega
    · rw[htk,if_neg hk0];simp only[List.map_append,←List.append_assoc];exact⟨rfl,by omega,trivial,trivial⟩
    show l.length-(k+1)<l.length-k;omega
   refine aJ ?_;refine T0 (hK _ _ _ ?_);clear hK K;refine Rg ?_;have F:=aI @List.length_append.{0} (aI @List.length_map.{0,0} (aI hpe (aI hbe hbe1)));iterate 2 refine SF ?_
   refine HS rfl rfl fun K' hK'=>T6 ?_;refine C1 (bC7 l[k] (by omega)) ?_;rintro u rfl;refine AX (hK' _ _ ?_);clear hK' K';iterate 2 refine SF ?_
   refine T2 (hK _ _ _ ?_);clear hK K;refine aK (by kernel_rfl) ?_;refine TQ (iH k) ?_;have hk0:k=0:=by simp at hb;omega
   refine⟨⟨k+1,hlk⟩,aL (by omega) ?_ ?_,?_⟩
   · rw[htk,if_pos hk0];simp[aY,upd_at,fin_at,HV.men];omega
   · rw[htk,if_pos hk0,List.nil_append];simp only[List.map_append,←List.append_assoc];exact⟨rfl,by omega,trivial,trivial⟩
   show l.length-(k+1)<l.length-k;omega
  have hek:k=l.length:=by simp at hb;omega
  subst hek;clear hb;rw[List.take_length]at*;refine bI (T3 ?_);clear hK K;refine AX (hK _ _ _ ?_);clear hK K;refine Rg ?_;have F:=aI @List.length_append.{0} @List.length_map.{0,0};iterate 4 refine SF ?_
  refine T2 (hK _ _ _ ?_);clear hK K;refine aK (by kernel_rfl) ?_;refine TQ (iH i) ?_;refine⟨⟨i+1,hlt⟩,aL (by omega) ?_ ?_,?_⟩
  · rw[hdt1,yR];simp[aY,upd_at,fin_at,HV.men];omega
  · rw[hdt1,yR];simp only[List.map_append,←List.append_assoc];exact⟨rfl,by omega,trivial,trivial⟩
  show ls.length-(i+1)<ls.length-i;omega
 refine bI (T3 ?_);clear hK K;refine AX (hK _ _ _ ?_);clear hK K;refine R0 ?_;refine aE (RT Tryz.results53 ?_);have hei:i=ls.length:=by simp at hb;omega
 subst hei;refine aO [216] (.slc ((fY ls).map dM)) (.int .i64 0) ?_ ⟨by rw[hO],by rw[hE]⟩;rw[List.take_length];simp[HV.close,fob_at,upd_at,HV.norm,HV.toC,HV.closeL,HV.toCL,List.take_of_length_le,CV.denil,dK]
theorem cB7 (v:CV):nth [v] 0=v:=rfl
theorem xI (c:UInt8):(u8 c).denil=u8 c:=rfl
theorem denilL_u8 : ∀bs:List UInt8,CV.denilL (bs.map u8)=bs.map u8
 |[]=>rfl
 |b::bs=>by simp only[List.map_cons,CV.denilL,denilL_u8 bs];rfl
theorem cB8 (l:List UInt8)(c:UInt8):cG Tryz.prog 142 [.slc (l.map u8),u8 c] (fun v=>v= .int .i64 (dQ l c)):=
 cJ8 (f:=142) (fn:=Tryz.f142) Tryz.func142 (by kernel_rfl) (by kernel_rfl) (by kernel_rfl) (by kernel_rfl) l c
theorem bR1 (l:List UInt8)(c:UInt8):cG Tryz.prog 141 [.str l,u8 c] (fun v=>v= .int .i64 (dQ l c)):=
 cB1 (f:=141) (fn:=Tryz.f141) Tryz.func141 (by kernel_rfl) (by kernel_rfl) (by kernel_rfl) (by kernel_rfl) l c
theorem cK1 (l:List UInt8)(c:UInt8):cG Tryz.prog 122 [.slc (l.map u8),u8 c] (fun v=>v= .int .i64 (dQ l c)):=by
 refine FW Tryz.func122 ?_;have F:=rI;refine RF ?_;refine aB fun K hK=>Rg ?_;have F:=aI rI (aI @denilL_u8 @xI);iterate 2 refine SF ?_
 refine HS rfl rfl fun K' hK'=>T6 ?_;refine C2 (cB8 l c) ?_;rintro u rfl;refine AX (hK' _ _ ?_);clear hK' K';refine SF ?_;simp only[sE,↓reduceIte,simprocAttr,rI];refine AX (hK _ _ _ ?_);clear hK K;refine aE ?_;simp only[fW,Tryz.results122,fK,fV,fC,↓sP,sA,tyS,simprocAttr,rI];exact aH [] (.int .i64 (dQ l c)) rfl rfl
theorem bR2 (l:List UInt8)(c:UInt8):cG Tryz.prog 121 [.str l,u8 c] (fun v=>v= .int .i64 (dQ l c)):=by
 refine FW Tryz.func121 ?_;have F:=rI;refine RF ?_;refine aB fun K hK=>Rg ?_;have F:=aI rI (aI @denilL_u8 @xI);iterate 2 refine SF ?_
 refine HS rfl rfl fun K' hK'=>T6 ?_;refine C2 (bR1 l c) ?_;rintro u rfl;refine AX (hK' _ _ ?_);clear hK' K';refine SF ?_;simp only[sE,↓reduceIte,simprocAttr,rI];refine AX (hK _ _ _ ?_);clear hK K;refine aE ?_;simp only[fW,Tryz.results121,fK,fV,fC,↓sP,sA,tyS,simprocAttr,rI];exact aH [] (.int .i64 (dQ l c)) rfl rfl
theorem rR (l:List UInt8)(c:UInt8):cG Tryz.prog 104 [.str l,u8 c] (fun v=>v= .int .i64 (dQ l c)):=by
 refine FW Tryz.func104 ?_;have F:=rI;refine RF ?_;refine aB fun K hK=>Rg ?_;have F:=aI rI (aI @denilL_u8 @xI);iterate 2 refine SF ?_
 refine HS rfl rfl fun K' hK'=>T6 ?_;refine C2 (bR2 l c) ?_;rintro u rfl;refine AX (hK' _ _ ?_);clear hK' K';refine SF ?_;simp only[sE,↓reduceIte,simprocAttr,rI];refine AX (hK _ _ _ ?_);clear hK K;refine aE ?_;simp only[fW,Tryz.results104,fK,fV,fC,↓sP,sA,tyS,simprocAttr,rI];exact aH [] (.int .i64 (dQ l c)) rfl rfl
theorem aB0 (l:List UInt8)(c:UInt8):cG Tryz.prog 105 [.slc (l.map u8),.slc [u8 c]] (fun v=>v= .int .i64 (dQ l c)):=by
 refine FW Tryz.func105 ?_;have F:=rI;refine RF ?_;refine RF ?_;refine aB fun K hK=>?_;refine aN ?_;refine RF ?_;refine aG (b:=(1:Int)==0) rfl (fun hb=>?_) (fun hb=>?_)
 · exact absurd hb (by decide)
 refine RF ?_;refine aG (b:=(1:Int)==1) rfl (fun hb=>?_) (fun hb=>?_)
 ·
  refine aB fun K hK=>Rg ?_;have F:=aI rI (aI @u8.eq_1 (aI @cB7 @denilL_u8));iterate 4 refine SF ?_
  refine HS rfl rfl fun K' hK'=>T6 ?_;refine C2 (cK1 l c) ?_;rintro u rfl;refine AX (hK' _ _ ?_);clear hK' K';refine SF ?_;simp only[sE,↓reduceIte,simprocAttr,rI];refine AX (hK _ _ _ ?_);clear hK K;refine aE ?_;simp only[fW,Tryz.results105,fK,fV,fC,↓sP,sA,tyS,simprocAttr,rI];exact aH [] (.int .i64 (dQ l c)) rfl rfl
 exact absurd hb (by decide)
theorem cB9 (l:List UInt8)(c:UInt8)(hl:l.length<2^40):wY Tryz.prog 85 [.slc (l.map u8),.slc [u8 c]] (fun x y f=> ∃(li re:List UInt8) (fd:Bool),x= .slc (li.map u8)∧y= .slc (re.map u8)∧f= .bool fd∧CutR l c li re fd):=by
 refine FW Tryz.func85 ?_;have F:=rI;refine RF ?_;refine aB fun K hK=>?_;refine aB fun K hK=>Rg ?_;have F:=aI rI @denilL_u8;iterate 2 refine SF ?_
 refine HS rfl rfl fun K' hK'=>T6 ?_;refine C2 (aB0 l c) ?_;rintro u rfl;refine AX (hK' _ _ ?_);clear hK' K';refine SF ?_;simp only[sE,↓reduceIte,simprocAttr,rI];refine AX (hK _ _ _ ?_);clear hK K;have F:=rI;refine RF ?_;refine aG (b:=decide ((0:Int)≤dQ l c)) rfl (fun hb=>?_) (fun hb=>?_)
 ·
  have hn: ¬dQ l c<0:=by simp at hb;omega
  obtain⟨i,hi,hil,hsp⟩:=eG hn;have hi':=hi;rw[hi];refine aB fun K hK=>QR ?_;have F:=aI rI (aI @Int.natCast_nonneg (aI @Int.ofNat_le (aI @Int.sub_zero (aI @Nat.sub_zero (aI @List.drop_zero.{0} (aI @lL (aI @denilL_u8 (aI @List.length_map.{0,0} (show IntKind.i64.wrap ((i:Int)+1)=((i+1:Nat):Int)from by rw[IntWalk.i64_in _ (by omega)];rfl)))))))));iterate 12 refine SF ?_
  simp only[sE,↓reduceIte,simprocAttr,rI];refine AX (hK _ _ _ ?_);clear hK K;refine aE ?_;simp only[fW,Tryz.results85,fK,fV,fC,↓sP,sA,tyS,simprocAttr,rI];refine dO [] (.slc ((l.take i).map u8)) (.slc ((l.drop (i+1)).map u8)) (.bool true) ?_ ⟨_,_,_,rfl,rfl,rfl,.inr ⟨rfl,i,hi,hil,rfl,rfl⟩⟩;simp[HV.close,HV.closeL,HV.norm,HV.toC,HV.toCL,CV.denil,denilL_u8];exact⟨by rw[←List.map_take,denilL_u8],by rw[←List.map_drop,←List.map_take,denilL_u8,List.take_of_length_le (by simp)]⟩
 have hn:dQ l c<0:=by simp at hb;omega
 refine aJ ?_;refine TQ rI ?_;refine AX (hK _ _ _ ?_);clear hK K;refine aB fun K hK=>Rg ?_;iterate 4 refine SF ?_
 simp only[sE,↓reduceIte,simprocAttr,rI];refine AX (hK _ _ _ ?_);clear hK K;refine aE ?_;simp only[fW,Tryz.results85,fK,fV,fC,↓sP,sA,tyS,simprocAttr,rI];refine dO [] (.slc (l.map u8)) (.slc []) (.bool false) ?_ ⟨l,[],false,rfl,rfl,rfl,.inl ⟨rfl,hn,rfl,rfl⟩⟩;simp[HV.close,HV.closeL,HV.norm,HV.toC,HV.toCL,CV.denil,denilL_u8]
theorem cC0 (l:List UInt8)(c:UInt8):bC4 Tryz.prog 106 126 [.slc (l.map u8),.slc [u8 c],.int .i64 0] [(47,.slc [u8 c]),(47,.slc (l.map u8)),(3,.int .i64 0)]:=by
 refine FW Tryz.func106 ?_;refine aB fun K hK=>Rg ?_;have F:=rI;iterate 4 refine SF ?_
 simp only[sE,↓reduceIte,simprocAttr,rI];refine AX (hK _ _ _ ?_);clear hK K;refine RF ?_;refine aE ?_;simp only[fW,Tryz.results106,fK,fV,fC,↓sP,sA,tyS,simprocAttr,rI];refine tJ (gf:=126) (bs:=[(47,.slc [u8 c]),(47,.slc (l.map u8)),(3,.int .i64 0)]) (ids:=[4,0,8]) rfl (by simp) (by decide) ?_ ?_
 ·
  intro j x hx
  match j,hx with
  |0,hx=>cases hx;rfl
  |1,hx=>cases hx;rfl
  |2,hx=>cases hx;rfl
 intro x hx;simp only[List.mem_cons,List.not_mem_nil,or_false]at hx;rcases hx with rfl|rfl|rfl
 · rfl
 · exact congrArg CV.slc (denilL_u8 l)
 rfl
theorem bI4 (l:List UInt8)(c:UInt8):bC4 Tryz.prog 86 126 [.slc (l.map u8),.slc [u8 c]] [(47,.slc [u8 c]),(47,.slc (l.map u8)),(3,.int .i64 0)]:=by
 refine FW Tryz.func86 ?_;have F:=rI;refine RF ?_;refine aB fun K hK=>Rg ?_;iterate 2 refine S0 ?_ (e:=fun _ h_=>by simp only[sH,↓sP,sA,tyS,simprocAttr,rI,denilL_u8,mW,iF,List.range',List.map_cons,List.map_nil];exact AX h_)
 refine HS rfl rfl fun K' hK'=>?_;simp only[sH,↓sP,sA,tyS,simprocAttr,rI,denilL_u8,mW,iF,List.range',List.map_cons,List.map_nil];refine tI (args:=[_,_,_]) (cC0 l c) (by simp) ⟨rfl,rfl,rfl,rfl⟩ ?_;refine AX (hK' _ _ ?_);clear hK' K';refine S0 ?_ (e:=fun _ h_=>by simp only[sH,↓sP,sA,tyS,simprocAttr,rI,denilL_u8,mW,iF,List.range',List.map_cons,List.map_nil];exact AX h_);simp only[sE,↓reduceIte,simprocAttr,rI];refine AX (hK _ _ _ ?_);clear hK K;refine aE ?_;simp only[fW,Tryz.results86,fK,fV,fC,↓sP,sA,tyS,simprocAttr,rI];refine tJ (gf:=126) (bs:=[(47,.slc [u8 c]),(47,.slc (l.map u8)),(3,.int .i64 0)]) (ids:=[12,13,14]) rfl (by simp) (by decide) ?_ ?_
 ·
  intro j x hx
  match j,hx with
  |0,hx=>cases hx;rfl
  |1,hx=>cases hx;rfl
  |2,hx=>cases hx;rfl
 intro x hx;simp only[List.mem_cons,List.not_mem_nil,or_false]at hx;rcases hx with rfl|rfl|rfl
 · rfl
 · exact congrArg CV.slc (denilL_u8 l)
 rfl
end Go.Proofs.YtlldglbooaefhaaGreatDoor
namespace Go.Pl
open Go Go.Hl
theorem rS (c:UInt8): ∀l:List UInt8,(aS c l).length=Lib.countByte l c+1
 |[]=>rfl
 |b::l=>by
  have ih:=rS c l;unfold Lib.countByte at ih⊢;rw[List.count_cons];unfold aS;by_cases h:b=c
  · rw[if_pos h];simp only[List.length_cons,ih,h,beq_self_eq_true,if_true]
  ·
   have hb:(b==c)=false:=by simpa using h
   rw[if_neg h];simp only[hb,Bool.false_eq_true,if_false,Nat.add_zero];split
   · rename_i x xs hx;rw[hx]at ih;simpa using ih
   · rename_i hx;exact absurd hx (dC c l)
theorem aW8 {c:UInt8}{l:List UInt8}(h:(aS c l).length=1):aS c l=[l]:=by
 by_cases hn:dQ l c<0;all_goals grind[nQ,eG,List.length_pos_iff,dC,List.length_cons]
def SplSt (l:aF)(c:UInt8)(i:Nat)(rest:aF)(a:List aF):Prop:=
 a.length=(aS c l).length∧a.take i=(aS c l).take i∧(aS c l).drop i=aS c rest∧i<(aS c l).length∧rest.length≤l.length
section
variable {l rest:aF}{c:UInt8}{i k:Nat}{a:List aF}
theorem SplSt.init (l:aF)(c:UInt8):SplSt l c 0 l (List.replicate (aS c l).length []):=
 ⟨by simp,by simp,rfl,List.length_pos_iff.2 (dC c l),Nat.le_refl _⟩
theorem SplSt.next (h:SplSt l c i rest a)(hk:dQ rest c=(k:Int)):k<rest.length∧SplSt l c (i+1) (rest.drop (k+1)) (a.set i (rest.take k)):=by
 obtain⟨h1,h2,h3,h4,h5⟩:=h;obtain⟨k',e1,e2,e3⟩:=eG (l:=rest) (c:=c) (by omega);have:k'=k:=by omega
 subst this;rw[e3]at h3;have h6:=List.drop_eq_getElem_cons h4;rw[h6]at h3;have h7:=List.head_eq_of_cons_eq h3;have h8:=List.tail_eq_of_cons_eq h3;refine⟨e2,by grind,?_,h8,?_,by grind⟩
 · rw[List.take_succ_eq_append_getElem (by grind),List.take_succ_eq_append_getElem h4,List.getElem_set_self,List.take_set_of_le (Nat.le_refl _),h2,h7]
 grind[Nat.lt_or_ge,aS,List.drop_eq_nil_of_le,absurd,dC]
theorem SplSt.last (h:SplSt l c i rest a)(hk:dQ rest c<0):i+1=(aS c l).length:=by
 obtain⟨h1,h2,h3,h4,h5⟩:=h;rw[nQ hk]at h3;have:=congrArg List.length h3;grind
theorem SplSt.fin (h:SplSt l c i rest a)(hi:i+1=(aS c l).length):a.set i rest=aS c l:=by
 obtain⟨h1,h2,h3,h4,h5⟩:=h;have h6:(aS c rest).length=1:=by rw[←h3,List.length_drop];omega
 rw[aW8 h6]at h3;have e1:a.set i rest=(a.set i rest).take (i+1):=(List.take_of_length_le (by grind)).symm;rw[e1,List.take_succ_eq_append_getElem (by grind),List.getElem_set_self,List.take_set_of_le (Nat.le_refl _),h2];grind[List.take_append_drop,aS]
end
def jK (c:UInt8):Bool:=decide (48≤c.toNat)&&decide (c.toNat≤57)
def dY :aF→Nat→Option Nat
 |[],n=>some n
 |c::l,n=>if jK c then dY l (10*n+(c.toNat-48))else none
def fD (s:aF):Bool:=decide (s.length<1)||decide (13<s.length)||(decide (1<s.length)&&s.getD 0 0==48)
def bL (s:aF):Option Int:=if fD s then none else match dY s 0 with|some n=>if 1099511627776<n then none else some (n:Int)|none=>none
def DgSt (s:aF)(i n:Nat):Prop:=i≤s.length∧dY s 0=dY (s.drop i) n∧n<10^i
theorem DgSt.init (s:aF):DgSt s 0 0:=⟨Nat.zero_le _,rfl,by omega⟩
variable {i n:Nat}{s:aF}
theorem DgSt.next (h:DgSt s i n)(hi:i<s.length)(hd:jK s[i]=true):DgSt s (i+1) (10*n+(s[i].toNat-48)):=by
 obtain⟨h1,h2,h3⟩:=h;refine⟨hi,?_,?_⟩
 · rw[h2,List.drop_eq_getElem_cons hi,dY,if_pos hd]
 · simp only[jK,Bool.and_eq_true,decide_eq_true_eq]at hd;grind
theorem DgSt.bad (h:DgSt s i n)(hi:i<s.length)(hd:jK s[i]=false):dY s 0=none:=by
 rw[h.2.1,List.drop_eq_getElem_cons hi,dY,if_neg (by grind)]
theorem DgSt.fin (h:DgSt s i n)(hi:i=s.length):dY s 0=some n:=by
 rw[h.2.1,hi,List.drop_length];rfl
theorem DgSt.lt (h:DgSt s i n)(hs:s.length≤13):n<10000000000000:=by
 have:10^i≤10^13:=Nat.pow_le_pow_right (by omega) (Nat.le_trans h.1 hs);have:=h.2.2;omega
theorem nU (h:fD s=true):bL s=none:=by unfold bL;grind
theorem oZ (h:dY s 0=none):bL s=none:=by grind[bL]
theorem aO7 (h:dY s 0=some n)(h1:1099511627776<n):bL s=none:=by simp_all[bL,if_pos]
theorem aG5 {n:Nat}(h0:fD s=false)(h:dY s 0=some n)(h1: ¬1099511627776<n):bL s=some (n:Int):=by simp_all[bL,if_neg]
theorem aO8 (c:UInt8):jK c=(decide ((48:Int)≤(c.toNat:Int))&&decide ((c.toNat:Int)≤57)):=by
 unfold jK;grind
theorem kF {n:Int}(h:bL s=some n):0≤n∧n≤1099511627776:=by grind[bL]
end Go.Pl
namespace Go.Proofs.YtlldglbooaefhaaGreatDoor
open Go Go.Hl Go.Pl
set_option maxRecDepth 10000
set_option maxHeartbeats 16000000
theorem bI5 (l:List UInt8)(c:UInt8):cG Tryz.prog 133 [.str l,u8 c] (fun v=>v= .int .i64 (Lib.countByte l c:Nat)):=
 tD (f:=133) (fn:=Tryz.f133) (e:=Extern.BytealgCount.count) Tryz.func133 (by kernel_rfl) (by kernel_rfl) (by kernel_rfl) (by kernel_rfl) fun w ρ O xs h=>by
  simp only[List.map_cons,List.map_nil,bU,RepHV]at h;obtain⟨x,l1,rfl,hx,y,l2,rfl,hy,rfl⟩:=h;have h1:=RepV.single hx rfl;have h2:=RepV.single hy rfl;simp only[u8,RepC,List.cons.injEq,and_true]at h1 h2;subst h1 h2;refine⟨_,_,rfl,eJ _ _ _ _ _,?_⟩;have:=Lib.run_countString (P:=Tryz.prog) ⟨l.toArray⟩ (c.toNat:Int) w;simpa using this
theorem xJ (l:List UInt8)(c:UInt8):cG Tryz.prog 134 [.str l,.str [c]] (fun v=>v= .int .i64 (dQ l c)):=by
 refine FW Tryz.func134 ?_;refine R0 ?_;refine R0 ?_;refine aB fun K hK=>?_;refine aN ?_;refine aB fun K hK=>Rg ?_;iterate 3 refine S0 ?_
 refine aD 18 rfl (fun h2_18=>?_) (fun h2_18=>?_)
 ·
  have F:=h2_18;iterate 5 refine SF ?_
  refine T2 (hK _ _ _ ?_);clear hK K;refine CT rfl ?_;refine R0 ?_;refine aE (RT Tryz.results134 ?_);exact absurd h2_18 (by decide)
 have F:=h2_18;iterate 5 refine SF ?_
 refine aD 22 rfl (fun h2_22=>?_) (fun h2_22=>?_)
 · simp only[h2_22];refine T2 (hK _ _ _ ?_);clear hK K;refine CT rfl ?_;refine R0 ?_;refine aE (RT Tryz.results134 ?_);have hl:l=[c]:=(eq_of_beq h2_22).symm;subst hl;exact aH [] (.int .i64 0) rfl (by simp[dQ])
 simp only[h2_22];refine T2 (hK _ _ _ ?_);clear hK K;refine CF rfl ?_;refine R0 ?_;refine aG (b:=(1:Int)==1) rfl (fun hb=>?_) (fun hb=>?_)
 ·
  refine aB fun K hK=>Rg ?_;have F:=aI @List.getD_cons_zero.{0} (aI h2_18 h2_22);iterate 3 refine SF ?_
  refine HS rfl rfl fun K' hK'=>T6 ?_;refine C2 (bR2 l c) ?_;rintro u rfl;refine AX (hK' _ _ ?_);clear hK' K';refine SF ?_;refine T2 (hK _ _ _ ?_);clear hK K;refine aE (RT Tryz.results134 ?_);exact aH [] (.int .i64 (dQ l c)) rfl rfl
 exact absurd hb (by decide)
theorem aO9 (l:List UInt8)(c:UInt8):cG Tryz.prog 112 [.str l,.str [c]] (fun v=>v= .int .i64 (dQ l c)):=by
 refine FW Tryz.func112 ?_;refine R0 ?_;refine aB fun K hK=>Rg ?_;iterate 2 refine S0 ?_
 refine HS rfl rfl fun K' hK'=>T5 ?_;refine C2 (xJ l c) ?_;rintro u rfl;refine AX (hK' _ _ ?_);clear hK' K';refine S0 ?_;refine T2 (hK _ _ _ ?_);clear hK K;refine aE (RT Tryz.results112 ?_);exact aH [] (.int .i64 (dQ l c)) rfl rfl
theorem aP0 (l:List UInt8)(c:UInt8):cG Tryz.prog 111 [.str l,.str [c]] (fun v=>v= .int .i64 (Lib.countByte l c:Nat)):=by
 refine FW Tryz.func111 ?_;refine R0 ?_;refine aB fun K hK=>?_;refine R0 ?_;refine aG (b:=(1:Int)==0) rfl (fun hb=>?_) (fun hb=>?_)
 · exact absurd hb (by decide)
 refine aJ ?_;refine T0 (hK _ _ _ ?_);clear hK K;refine aB fun K hK=>?_;refine R0 ?_;refine aG (b:=(1:Int)==1) rfl (fun hb=>?_) (fun hb=>?_)
 ·
  refine aB fun K hK=>Rg ?_;have F:=@List.getD_cons_zero.{0};iterate 3 refine SF ?_
  refine HS rfl rfl fun K' hK'=>T6 ?_;refine C2 (bI5 l c) ?_;rintro u rfl;refine AX (hK' _ _ ?_);clear hK' K';refine SF ?_;refine T2 (hK _ _ _ ?_);clear hK K;refine aE (RT Tryz.results111 ?_);exact aH [] (.int .i64 _) rfl rfl
 exact absurd hb (by decide)
theorem aP1 (l:List UInt8)(c:UInt8)(hl:l.length<2^40):cG Tryz.prog 94 [.str l,.str [c],.int .i64 0,.int .i64 (-1)] (fun v=>v= .slc ((aS c l).map .str)):=by
 refine FW Tryz.func94 ?_;refine R0 ?_;refine aB fun K hK=>?_;refine R0 ?_;refine aG (b:=(-1:Int)==0) rfl (fun hb=>?_) (fun hb=>?_)
 · exact absurd hb (by decide)
 refine aJ ?_;refine T0 (hK _ _ _ ?_);clear hK K;refine aB fun K hK=>?_;refine R0 ?_;refine aG (b:=[c]==[]) rfl (fun hb=>?_) (fun hb=>?_)
 · exact absurd hb (by simp)
 refine aJ ?_;refine T0 (hK _ _ _ ?_);clear hK K;refine aB fun K hK=>?_;refine R0 ?_;refine aG (b:=decide ((-1:Int)<0)) rfl (fun hb=>?_) (fun hb=>?_)
 ·
  obtain⟨n,hn⟩: ∃n,n=(aS c l).length:=⟨_,rfl⟩;have hcount:=rS c l;have hlen:=eX c l;rw[←hn]at hcount hlen;have hw0:IntKind.i64.wrap ((Lib.countByte l c:Nat)+1:Int)=(n:Int):=by rw[IntWalk.i64_in _ (by omega)];omega
  refine Rg ?_;have F:=hw0;iterate 2 refine SF ?_
  refine HS rfl rfl fun K' hK'=>T6 ?_;refine C2 (aP0 l c) ?_;rintro u rfl;refine AX (hK' _ _ ?_);clear hK' K';iterate 2 refine SF ?_
  refine T2 (hK _ _ _ ?_);clear hK K;have hw1:IntKind.i64.wrap ((l.length:Int)+1)=((l.length+1:Nat):Int):=by rw[IntWalk.i64_in _ (by omega)];omega
  have hmin:(if((l.length+1:Nat):Int)<(n:Int)then((l.length+1:Nat):Int)else(n:Int))=(n:Int):=by rw[if_neg (by omega)]
  refine aB fun K hK=>Rg ?_;have F:=aI hw1 hmin;iterate 6 refine SF ?_
  refine T2 (hK _ _ _ ?_);clear hK K;have hn0:((n:Int)=0)=False:=by simp;omega
  have hrep:(List.replicate n (CV.str []))=(List.replicate n ([]:aF)).map .str:=by simp
  have F:=aI hn0 (aI hrep @Int.toNat_natCast);refine RF ?_;have hw2:IntKind.i64.wrap ((n:Int)-1)=((n-1:Nat):Int):=by rw[IntWalk.i64_in _ (by omega)];omega
  have F:=hw2;refine RF ?_;refine R0 ?_;refine aB fun K hK=>?_;refine aN ?_;have hn1:1≤n:=by rw[hn];exact List.length_pos_iff.2 (dC c l)
  refine bS (α:={y:Nat×aF×List aF//SplSt l c y.1 y.2.1 y.2.2}) (fun y=>(fin [(0,.c (.str y.1.2.1)),(1,.c (.str [c])),(2,.c (.int .i64 0)),(3,.c (.int .i64 (n-1:Nat))),(9,.own 76 n),(10,.c (.int .i64 y.1.1))],fob [(76,.row 9 1 (y.1.2.2.map .str))])) 100 (fun y=>y.1.2.1.length) ⟨(0,l,List.replicate n []),by rw[hn];exact SplSt.init l c⟩ (fF) ?_;rintro⟨⟨i,rest,a⟩,hst⟩;simp only at hst;have hin:i<n:=by rw[hn];exact hst.2.2.2.1
  have hal:a.length=n:=by rw[hn];exact hst.1
  have hia:i<a.length:=by omega
  have hna:nth (a.map CV.str) i= .str a[i]:=bR hia;have hrl:=hst.2.2.2.2;refine aB fun K hK=>?_;refine R0 ?_;refine aG (b:=decide ((i:Int)<((n-1:Nat):Int))) rfl (fun hb=>?_) (fun hb=>?_)
  ·
   have hi1:i+1<n:=by simp at hb;omega
   clear hb;refine aJ ?_;refine T0 (hK _ _ _ ?_);clear hK K;refine aN ?_;refine aB fun K hK=>Rg ?_;iterate 2 refine S0 ?_
   refine HS rfl rfl fun K' hK'=>T5 ?_;refine C2 (aO9 rest c) ?_;rintro u rfl;refine AX (hK' _ _ ?_);clear hK' K';refine S0 ?_;refine T2 (hK _ _ _ ?_);clear hK K;refine aB fun K hK=>?_;refine R0 ?_;refine aG (b:=decide (dQ rest c<0)) rfl (fun hb=>?_) (fun hb=>?_)
   · have:=hst.last (by simpa using hb);omega
   obtain⟨k,hk,hkl,_⟩:=eG (l:=rest) (c:=c) (by simpa using hb);obtain⟨_,hnx⟩:=hst.next hk;rw[hk];have hkl1:k+1≤rest.length:=hkl;have hw3:IntKind.i64.wrap ((k:Int)+0)=(k:Int):=by rw[IntWalk.i64_in _ (by omega)];omega
   have hw4:IntKind.i64.wrap ((k:Int)+1)=((k+1:Nat):Int):=by rw[IntWalk.i64_in _ (by omega)];rfl
   have hw5:IntKind.i64.wrap ((i:Int)+1)=((i+1:Nat):Int):=by rw[IntWalk.i64_in _ (by omega)];rfl
   have htd:List.take (rest.length-(k+1)) (List.drop (k+1) rest)=List.drop (k+1) rest:=List.take_of_length_le (by simp);refine aJ ?_;refine T0 (hK _ _ _ ?_);clear hK K;refine aB fun K hK=>Rg ?_;iterate 9 refine S0 ?_ (e:=fun _ h_=>by simp only[sH,↓sP,sA,tyS,simprocAttr,Int.natCast_nonneg,Int.ofNat_le,Int.ofNat_lt,Nat.le_of_lt hkl,hw3,Nat.sub_zero,List.drop_zero,List.length_map,hal,hin,hna];exact AX h_)
   refine T2 (hK _ _ _ ?_);clear hK K;refine aB fun K hK=>Rg ?_;have F:=aI @Int.natCast_nonneg (aI @Int.ofNat_le (aI hkl1 (aI hw4 htd)));iterate 7 refine SF ?_
   refine T2 (hK _ _ _ ?_);clear hK K;refine aK (by kernel_rfl) ?_;refine TQ hw5 ?_;refine⟨⟨(i+1,rest.drop (k+1),a.set i (rest.take k)),hnx⟩,aL (by omega) ?_ ?_,?_⟩
   · simp[aY,upd_at,fin_at,HV.men]
   · simp only[aZ,List.map_set];exact⟨rfl,by omega,trivial,trivial⟩
   show(rest.drop (k+1)).length<rest.length;simp;omega
  refine bI (T3 ?_);clear hK K;refine AX (hK _ _ _ ?_);clear hK K;have hi1:i+1=n:=by simp at hb;omega
  have hfin:=hst.fin (by omega);have hw5:IntKind.i64.wrap ((i:Int)+1)=(n:Int):=by rw[IntWalk.i64_in _ (by omega)];omega
  refine aB fun K hK=>Rg ?_;have F:=aI @Int.natCast_nonneg (aI @Int.ofNat_lt (aI @List.length_map.{0,0} (aI hal (aI hin hna))));iterate 5 refine SF ?_
  refine T2 (hK _ _ _ ?_);clear hK K;refine aB fun K hK=>Rg ?_;have F:=aI @Int.natCast_nonneg (aI hw5 (aI @List.length_map.{0,0} (aI @List.length_set.{0} (aI hal @Int.le_refl))));iterate 5 refine SF ?_
  refine T2 (hK _ _ _ ?_);clear hK K;refine aE (RT Tryz.results94 ?_);refine aH [76] (.slc ((aS c l).map .str)) ?_ rfl;have hset:(a.map CV.str).set i (CV.str rest)=(aS c l).map .str:=by rw[←List.map_set,hfin]
  have ht:List.take n ((aS c l).map CV.str)=(aS c l).map .str:=List.take_of_length_le (by simp[hn]);rw[hset];have hn0':0<n:=hn1;simp[HV.close,upd_at,←hn,HV.norm,HV.toC,CV.denil,denilL_str,ht,hn0']
 exact absurd hb (by decide)
theorem aP2 (l:List UInt8)(c:UInt8)(hl:l.length<2^40):cG Tryz.prog 68 [.str l,.str [c]] (fun v=>v= .slc ((aS c l).map .str)):=by
 refine FW Tryz.func68 ?_;refine R0 ?_;refine aB fun K hK=>Rg ?_;iterate 2 refine S0 ?_
 refine HS rfl rfl fun K' hK'=>T5 ?_;refine C4 (aP1 l c hl) ?_;rintro u rfl;refine AX (hK' _ _ ?_);clear hK' K';refine S0 ?_;refine T2 (hK _ _ _ ?_);clear hK K;refine aE (RT Tryz.results68 ?_);exact aH [] (.slc ((aS c l).map .str)) (by simp[HV.close,HV.norm,HV.toC,CV.denil,denilL_str]) rfl
end Go.Proofs.YtlldglbooaefhaaGreatDoor
namespace Go.Pl
open Go Go.Hl
def tab (n:Nat)(f:Nat→Bool):List Bool:=(List.range n).map f
theorem mP (n:Nat)(f:Nat→Bool):(tab n f).length=n:=by simp[tab]
variable {i n:Nat}{f:Nat→Bool}
theorem rT (h:i<n):(tab n f)[i]'(by rw[mP];exact h)=f i:=by simp[tab]
theorem bI6 (n:Nat):List.replicate n false=tab n (fun _=>false):=by
 refine List.ext_getElem (by simp[mP]) fun i h1 h2=>?_;grind[rT]
theorem cC1 {b:Bool}:(tab n f).set i b=tab n (fun j=>if j=i then b else f j):=by
 refine List.ext_getElem (by simp[mP]) fun j h1 h2=>?_;rw[mP]at h2;rw[rT h2,List.getElem_set];by_cases e:i=j
 · grind
 · rw[if_neg e,if_neg fun h=>e h.symm,rT h2]
theorem bC8 {g:Nat→Bool}(h: ∀i,i<n→f i=g i):tab n f=tab n g:=by grind[List.ext_getElem,mP,rT]
def bC1 (b:Bool):CV:= .bool b
theorem cC2 (h:i<n):nth ((tab n f).map bC1) i= .bool (f i):=by
 rw[bR (by rw[mP];exact h),rT h];rfl
section
variable (ps:List Pt)(s:aF)
def prt (k:Nat):Pt:=ps.getD k ⟨0,0⟩
theorem cP0 :mD ps s 0 0=true:=by rw[mD.eq_def]
theorem cP1 (i:Nat):mD ps s 0 (i+1)=false:=by rw[mD.eq_def]
theorem cP2 (k:Nat):mD ps s (k+1) 0=((prt ps k).long&&mD ps s k 0):=by rw[mD.eq_def];rfl
theorem pP (k i:Nat):mD ps s (k+1) (i+1)=if(prt ps k).long then mD ps s k (i+1)||(mD ps s (k+1) i&&(prt ps k).takes (s.getD i 0))else mD ps s k i&&(prt ps k).takes (s.getD i 0):=by
 rw[mD.eq_def];rfl
def nxt (k i j:Nat):Bool:=if j≤i then mD ps s (k+1) j else false
theorem bR3 (k:Nat)(j:Nat):(if j=0 then(mD ps s k 0&&(prt ps k).long)else false)=nxt ps s k 0 j:=by
 unfold nxt;by_cases h:j=0
 · subst h;rw[if_pos rfl,if_pos (Nat.le_refl _),cP2,Bool.and_comm]
 · rw[if_neg h,if_neg (by omega)]
theorem bR4 (k i:Nat)(j:Nat):(if j=i+1 then mD ps s (k+1) (i+1)else nxt ps s k i j)=nxt ps s k (i+1) j:=by
 unfold nxt;grind
theorem cC3 (k:Nat):tab (s.length+1) (nxt ps s k s.length)=tab (s.length+1) (mD ps s (k+1)):=
 bC8 fun i hi=>by unfold nxt;grind
theorem bR5 :tab (s.length+1) (fun j=>if j=0 then true else false)=tab (s.length+1) (mD ps s 0):=
 bC8 fun i _=>by
  cases i with
  |zero=>rw[cP0];rfl
  |succ i=>rw[cP1];rfl
def p1 (i k j:Nat):Bool:=(decide (j<k)&&((prt ps j).long&&(mN ps s j i&&(prt ps j).takes (s.getD i 0))))||
 (decide (1≤j)&&(decide (j-1<k)&&(!(prt ps (j-1)).long&&(mN ps s (j-1) i&&(prt ps (j-1)).takes (s.getD i 0)))))
def p2 (i k j:Nat):Bool:=if j≤k then mN ps s j (i+1)else p1 ps s i ps.length j
end
end Go.Pl
namespace Go.Proofs.YtlldglbooaefhaaGreatDoor
open Go Go.Hl Go.Pl
set_option maxRecDepth 10000
set_option maxHeartbeats 16000000
theorem bI7 (c d:UInt8):((c.toNat:Int)==(d.toNat:Int))=(c==d):=by
 by_cases h:c=d
 · simp[h]
 have: ¬(c.toNat:Int)=(d.toNat:Int):=fun e=>h (UInt8.toNat_inj.1 (by omega));rw[beq_false_of_ne this,beq_false_of_ne h]
theorem cS5 (c d:UInt8):((c.toNat:Int) !=(d.toNat:Int))=!(c==d):=by
 show(!((c.toNat:Int)==(d.toNat:Int)))=_;rw[bI7]
theorem gA (x:Pt)(hk:x.k≤3):cG Tryz.prog 98 [x.cv] (fun v=>v= .bool x.long):=by
 refine FW Tryz.func98 ?_;have F:=aI @Pt.cells (aI @Pt.isAgg @Pt.getAll);refine RF ?_;refine aB fun K hK=>Rg ?_;have F:=@Pt.get_k;iterate 4 refine SF ?_
 refine aD 5 rfl (fun h1_5=>?_) (fun h1_5=>?_)
 ·
  have F:=aI @Pt.get_k h1_5;iterate 5 refine SF ?_
  refine T2 (hK _ _ _ ?_);clear hK K;refine aE (RT Tryz.results98 ?_);refine aH [] (.bool _) rfl ?_;have hkk:x.k=0∨x.k=1∨x.k=2∨x.k=3:=by omega
  rcases hkk with h|h|h|h<;>simp_all[Pt.long]
 have F:=aI @Pt.get_k h1_5;iterate 5 refine SF ?_
 refine T2 (hK _ _ _ ?_);clear hK K;refine aE (RT Tryz.results98 ?_);refine aH [] (.bool _) rfl ?_;have hkk:x.k=0∨x.k=1∨x.k=2∨x.k=3:=by omega
 rcases hkk with h|h|h|h<;>simp_all[Pt.long]
theorem cC4 (c:UInt8):cG Tryz.prog 115 [u8 c] (fun v=>v= .bool true):=by
 refine FW Tryz.func115 ?_;refine R0 ?_;refine R0 ?_;refine aE (RT Tryz.results115 ?_);exact aH [] (.bool true) rfl rfl
theorem bC9 (c:UInt8):cG Tryz.prog 116 [u8 c] (fun v=>v= .bool (!(c==47))):=by
 refine FW Tryz.func116 ?_;refine R0 ?_;refine R0 ?_;refine aE (RT Tryz.results116 ?_);exact aH [] (.bool (!(c==47))) (by rw[←cS5 c 47];rfl) rfl
end Go.Proofs.YtlldglbooaefhaaGreatDoor
namespace Go.Pl
open Go Go.Hl
def aft (l:List Nd)(i:Nat):Nat:=l.length-((skip 1 (l.drop i)).getD []).length
variable {i:Nat}{l:List Nd}
theorem aW9 {j:Nat}(hj:j≤l.length)(h:skip 1 (l.drop i)=some (l.drop j)):aft l i=j:=by grind[aft,List.length_drop]
theorem lF (h:IsTree l)(hi:i<l.length):i<aft l i∧aft l i≤l.length∧skip 1 (l.drop i)=some (l.drop (aft l i)):=by grind[bP4,aW9]
def AftSt (l:List Nd)(i m p:Nat):Prop:=p≤l.length∧skip m (l.drop p)=skip 1 (l.drop i)
theorem AftSt.lt (ht:IsTree l){m p:Nat}(hi:i<l.length)(h:AftSt l i m p)(hm:0<m):p<l.length:=by
 rcases Nat.lt_or_ge p l.length with h1|h1
 · grind
 · have h2:=h.2;rw[List.drop_eq_nil_of_le h1,(lF ht hi).2.2]at h2;obtain⟨k,rfl⟩: ∃k,m=k+1:=⟨m-1,by omega⟩;cases h2
theorem AftSt.next {m p:Nat}(h:AftSt l i (m+1) p)(hp:p<l.length):AftSt l i (m+l[p].c.toNat) (p+1):=by
 refine⟨hp,?_⟩;rw[←h.2,List.drop_eq_getElem_cons hp];rfl
theorem AftSt.fin {p:Nat}(h:AftSt l i 0 p):p=aft l i:=by
 have h2:=h.2;rw[dH]at h2;exact(aW9 h.1 h2.symm).symm
def kT (l:List Nd):Nat→Nat→List Nat
 |0,_=>[]
 |k+1,at_=>at_::kT l k (aft l at_)
def bR6 (l:List Nd)(i:Nat):List Nat:=kT l (l.getD i nd0).c.toNat (i+1)
def tL (l:List Nd)(i:Int):List Nat:=if dV l=true∧0≤i∧i<l.length then bR6 l i.toNat else []
theorem aB1 (l:List Nd): ∀(k p:Nat),(kT l k p).length=k
 |0,_=>rfl
 |k+1,p=>by simp[kT,aB1 l k]
def eV (l:List Nd):Nat→Nat→Nat
 |0,p=>p
 |k+1,p=>eV l k (aft l p)
theorem gU (l:List Nd): ∀(k p:Nat),eV l (k+1) p=aft l (eV l k p)
 |0,p=>rfl
 |k+1,p=>gU l k (aft l p)
theorem xK (l:List Nd): ∀(k p:Nat),kT l (k+1) p=kT l k p++[eV l k p]
 |0,p=>rfl
 |k+1,p=>by rw[kT,xK l k];rfl
theorem iN {l:List Nd}(ht:IsTree l){i:Nat}(hi:i<l.length): ∀k,k≤l[i].c.toNat→eV l k (i+1)≤l.length∧skip (l[i].c.toNat-k) (l.drop (eV l k (i+1)))=some (l.drop (aft l i))∧i+1≤eV l k (i+1)
 |0,_=>by
  refine⟨hi,?_,Nat.le_refl _⟩;have:=(lF ht hi).2.2;rw[List.drop_eq_getElem_cons hi]at this;show skip (l[i].c.toNat-0) _=_;rw[←this,Nat.sub_zero];show _=skip (0+l[i].c.toNat) _;rw[Nat.zero_add];rfl
 |k+1,hk=>by
  obtain⟨h1,h2,h3⟩:=iN ht hi k (by omega);have hlt:eV l k (i+1)<l.length:=by
   rcases Nat.lt_or_ge (eV l k (i+1)) l.length with h|h
   · exact h
   · rw[List.drop_eq_nil_of_le h]at h2;obtain⟨q,hq⟩: ∃q,l[i].c.toNat-k=q+1:=⟨l[i].c.toNat-k-1,by omega⟩;rw[hq]at h2;cases h2
  obtain⟨a1,a2,a3⟩:=lF ht hlt;rw[gU];refine⟨a2,?_,by omega⟩;obtain⟨q,hq⟩: ∃q,l[i].c.toNat-k=1+q:=⟨l[i].c.toNat-k-1,by omega⟩;rw[hq,fX,a3]at h2;grind
theorem nV (ht:IsTree l)(hi:i<l.length){k:Nat}(hk:k<l[i].c.toNat):eV l k (i+1)<l.length:=by
 obtain⟨h1,h2,_⟩:=iN ht hi k (by omega);rcases Nat.lt_or_ge (eV l k (i+1)) l.length with h|h
 · exact h
 · rw[List.drop_eq_nil_of_le h]at h2;obtain⟨q,hq⟩: ∃q,l[i].c.toNat-k=q+1:=⟨l[i].c.toNat-k-1,by omega⟩;rw[hq]at h2;cases h2
def gZ :Nat→List Nd→List Nat
 |_,[]=>[]
 |o,n::l=>if n.k=1 then o::gZ (o+1) l else gZ (o+1) l
def jL (l:List Nd):List Nat:=if dV l then gZ 0 l else []
theorem lO : ∀(l:List Nd) (o:Nat),(gZ o l).length=lv l
 |[],_=>rfl
 |n::l,o=>by
  rw[gZ,lv];split
  · simp[lO l];omega
  · simp[lO l]
theorem rU : ∀(a b:List Nd) (o:Nat),gZ o (a++b)=gZ o a++gZ (o+a.length) b
 |[],b,o=>by simp[gZ]
 |n::a,b,o=>by
  simp only[List.cons_append,gZ,rU a b,List.length_cons];grind
theorem aX0 (h:i<l.length):gZ 0 (l.take (i+1))=gZ 0 (l.take i)++(if l[i].k=1 then [i]else []):=by
 rw[List.take_succ_eq_append_getElem h,rU];have:(l.take i).length=i:=by simp;omega
 simp_all[Nat.zero_add,gZ]
theorem aP3 (h:IsTree l):1≤lv l:=by
 have key: ∀(l:List Nd) (m:Nat),skip (m+1) l=some []→(∀n∈l,cJ n=true)→1≤lv l:=by
  intro l;induction l with
  |nil=>intro m h;cases h
  |cons n l ih=>
   intro m h hn;have h':skip (m+n.c.toNat) l=some []:=h;obtain⟨c1,c2,c3,c4⟩:=eN (hn n List.mem_cons_self);rw[lv];split
   · omega
   · rename_i hk;have:=c4 hk;obtain⟨q,hq⟩: ∃q,m+n.c.toNat=q+1:=⟨m+n.c.toNat-1,by omega⟩;grind
 exact key l 0 h.skip h.node
def cnt (l:List Bool):Nat:=(l.filter id).length
theorem cK2 (l:List Bool):cnt l≤l.length:=List.length_filter_le _ _
theorem aP4 (l:List Bool):cnt l.reverse=cnt l:=by simp[cnt,List.filter_reverse]
def lP (n:Nd)(l:List Bool):Bool:=if n.k=2 then cnt l==l.length else if n.k=3 then decide (1≤cnt l)else decide (n.n≤cnt l)
def evS (T:Nat)(tr:List Bool):List Nd→List Bool
 |[]=>[]
 |n::l=>if n.k=1 then tr.getD (T-lv (n::l)) false::evS T tr l else lP n ((evS T tr l).take n.c.toNat)::(evS T tr l).drop n.c.toNat
theorem aG6 {T:Nat}{tr:List Bool}: ∀(l:List Nd) (m:Nat),(∀n∈l,cJ n=true)→skip m l=some []→(evS T tr l).length=m
 |[],0,_,_=>rfl
 |[],m+1,_,h=>by cases h
 |n::l,0,_,h=>by grind[dH]
 |n::l,m+1,hn,h=>by
  have h':skip (m+n.c.toNat) l=some []:=h;have ih:=aG6 (T:=T) (tr:=tr) l _ (fun x hx=>hn x (List.mem_cons_of_mem _ hx)) h';obtain⟨c1,c2,c3,c4⟩:=eN (hn n List.mem_cons_self);grind[evS,List.length_cons,List.length_drop]
def xL (l:List Nd)(tr:List Bool):Bool:=dV l&&(evS (lv l) tr l).headD false
theorem aG7 (l:List Nd)(i:Nat):lv (l.take i)+lv (l.drop i)=lv l:=by rw[←sZ,List.take_append_drop]
theorem bR7 (ht:IsTree l){tr:List Bool}(hi:i<l.length):l[i].c.toNat≤(evS (lv l) tr (l.drop (i+1))).length:=by
 obtain⟨k,hk⟩:=tA l 1 ht.skip ht.node i hi;rw[List.drop_eq_getElem_cons hi]at hk;have hk':skip (k+l[i].c.toNat) (l.drop (i+1))=some []:=hk;rw[aG6 _ _ (fun n hn=>ht.node n (List.mem_of_mem_drop hn)) hk'];omega
theorem uO (c:UInt8): ∀m:aF,aS c (m++[c])=aS c m++[[]]
 |[]=>by simp[aS]
 |b::m=>by
  have ih:=uO c m;simp only[List.cons_append];rw[aS,aS];by_cases h:b=c
  · grind
  · rw[if_neg h,if_neg h,ih];grind[aS,absurd,dC]
theorem kU {c:UInt8}: ∀{l:aF},l≠[]→(aS c l).getLast (dC c l)=[]→ ∃m,l=m++[c]
 |[],h,_=>absurd rfl h
 |b::l,_,hl=>by
  by_cases h:b=c
  ·
   subst h;have hs:aS b (b::l)=[]::aS b l:=by rw[aS,if_pos rfl]
   cases l with
   |nil=>simp_all
   |cons d l=>
    have:(aS b (d::l)).getLast (dC b _)=[]:=by
     simp only[hs]at hl;rw[List.getLast_cons (dC b _)]at hl;exact hl
    obtain⟨m,hm⟩:=kU (l:=d::l) (by simp) this;grind
  ·
   cases hs:aS c l with
   |nil=>exact absurd hs (dC c l)
   |cons x xs=>
    have hs2:aS c (b::l)=(b::x)::xs:=by rw[aS,if_neg h,hs]
    simp only[hs2]at hl;cases xs with
    |nil=>grind
    |cons y ys=>
     have hne:l≠[]:=by rintro rfl;simp[aS]at hs
     have:(aS c l).getLast (dC c l)=[]:=by
      simp only[hs];rw[List.getLast_cons (by simp)]at hl⊢;exact hl
     obtain⟨m,hm⟩:=kU hne this;grind
def mV (c:UInt8):List aF→aF
 |[]=>[]
 |w::l=>w++l.flatMap fun v=>c::v
theorem nW (c:UInt8): ∀l:aF,mV c (aS c l)=l
 |[]=>rfl
 |b::l=>by
  have ih:=nW c l;rw[aS];cases hs:aS c l with
  |nil=>exact absurd hs (dC c l)
  |cons x xs=>
   grind[mV]
theorem uP {c:UInt8}: ∀{w:aF},(∀b∈w,b≠c)→aS c w=[w]
 |[],_=>rfl
 |b::w,h=>by
  rw[aS,if_neg (h b List.mem_cons_self),uP fun x hx=>h x (List.mem_cons_of_mem _ hx)]
theorem xM {c:UInt8}{r:aF}: ∀{w:aF},(∀b∈w,b≠c)→aS c (w++c::r)=w::aS c r
 |[],_=>by simp only[List.nil_append];rw[aS,if_pos rfl]
 |b::w,h=>by
  simp only[List.cons_append];rw[aS,if_neg (h b List.mem_cons_self),xM fun x hx=>h x (List.mem_cons_of_mem _ hx)]
theorem nX {c:UInt8}: ∀{l:List aF},l≠[]→(∀w∈l,∀b∈w,b≠c)→aS c (mV c l)=l
 |[],h,_=>absurd rfl h
 |[w],_,h=>by grind[mV,uP,List.mem_cons_self]
 |w::v::l,_,h=>by
  have ih:=nX (c:=c) (l:=v::l) (by simp) fun x hx=>h x (List.mem_cons_of_mem _ hx);grind[mV,xM,List.mem_cons_self]
theorem aX1 (c:UInt8)(m:aF):((aS c m).flatMap fun r=>r++[c])=m++[c]:=by
 have h:=nW c m;cases hs:aS c m with
 |nil=>exact absurd hs (dC c m)
 |cons x xs=>
  rw[hs]at h;simp only[mV]at h;rw[←h];have key: ∀(x:aF) (xs:List aF),(List.flatMap (fun r=>r++[c]) (x::xs))=(x++xs.flatMap fun v=>c::v)++[c]:=by
   intro x xs;induction xs generalizing x with
   |nil=>simp
   |cons y ys ih=>
    grind
  grind
set_option maxRecDepth 20000 in
theorem aP5 {c:UInt8}(h:valH c<16):nO (valH c)=c:=by
 have key: ∀n:Fin 256,valH (UInt8.ofNat n.1)<16→nO (valH (UInt8.ofNat n.1))=UInt8.ofNat n.1:=by decide
 have:=key ⟨c.toNat,c.toNat_lt⟩;simp_all
set_option maxRecDepth 20000 in
theorem aB2 {n:Nat}(h:n<16):valH (nO n)=n:=by
 have key: ∀n:Fin 16,valH (nO n.1)=n.1:=by decide
 exact key ⟨n,h⟩
theorem bR8 {x y:UInt8}(h:okH x y=true):jJ (byteH x y)=[37,x,y]:=by
 simp only[okH,Bool.and_eq_true,decide_eq_true_eq,Bool.not_eq_true']at h;obtain⟨⟨h1,h2⟩,h3⟩:=h;unfold jJ;rw[h3,tE h1 h2];have e1:(16*valH x+valH y)/16=valH x:=by omega
 have e2:(16*valH x+valH y)%16=valH y:=by omega
 simp only[Bool.false_eq_true,if_false,e1,e2,aP5 h1,aP5 h2]
variable {c:UInt8}
theorem xN (h:cU c=true):jJ c=[c]:=by unfold jJ;grind
theorem aG8 : ∀(n:Nat) {s w:aF},s.length≤n→unB s=some w→dA w=s
 |0,s,w,hn,h=>by simp_all[List.eq_nil_of_length_eq_zero,unB,Option.some.injEq]
 |n+1,[],w,_,h=>by simp_all[unB,Option.some.injEq]
 |n+1,c::l,w,hn,h=>by
  simp only[List.length_cons]at hn;by_cases hp:cU c=true
  · rw[oV hp,Option.map_eq_some_iff]at h;obtain⟨w',h',rfl⟩:=h;have ih:=aG8 n (by omega) h';grind[dA,xN]
  ·
   have hp:cU c=false:=by simpa using hp
   by_cases hc:c=37
   ·
    subst hc
    match l,h with
    |[],h=>grind[vM]
    |[x],h=>grind[vM]
    |x::y::l',h=>
     by_cases ho:okH x y=true
     · rw[aF8 ho,Option.map_eq_some_iff]at h;obtain⟨w',h',rfl⟩:=h;have ih:=aG8 n (by grind) h';grind[dA,bR8]
     grind[uJ]
   grind[vM]
variable {s:aF}
theorem cC5 {w:aF}(h:unW s=some w):iG w=s:=by
 unfold unW at h;split at h
 · rename_i hs;cases h;rw[hs];rfl
 ·
  split at h
  · cases h
  · rename_i h1 h2;have:=aG8 _ (Nat.le_refl _) h;unfold iG;rw[if_neg (cJ9 h2 h),this]
theorem aB3 : ∀w:aF,unB (dA w)=some w
 |[]=>rfl
 |c::w=>by
  have ih:=aB3 w;have e:dA (c::w)=jJ c++dA w:=by simp[dA]
  rw[e];by_cases hp:cU c=true
  · grind[xN,oV]
  ·
   have hp:cU c=false:=by simpa using hp
   have hlt:=c.toNat_lt;have h1:valH (nO (c.toNat/16))=c.toNat/16:=aB2 (by omega);have h2:valH (nO (c.toNat%16))=c.toNat%16:=aB2 (by omega);have hb:byteH (nO (c.toNat/16)) (nO (c.toNat%16))=c:=by
    unfold byteH;rw[h1,h2,Nat.div_add_mod];exact UInt8.ofNat_toNat
   have ho:okH (nO (c.toNat/16)) (nO (c.toNat%16))=true:=by
    simp only[okH,hb,hp,h1,h2,Bool.and_eq_true,decide_eq_true_eq,Bool.not_false,and_true];omega
   grind[jJ,nO,aF8]
variable {b:UInt8}
theorem aB4 (h:b∈jJ c):b≠10∧b≠32∧b≠126:=by
 unfold jJ at h;split at h
 · rename_i hp;simp only[List.mem_singleton]at h;subst h;refine⟨?_,?_,?_⟩<;>(rintro rfl;revert hp;decide)
 ·
  have key: ∀n:Nat,nO n≠10∧nO n≠32∧nO n≠126:=by
   intro n;unfold nO;rcases Nat.lt_or_ge n 16 with hn|hn
   ·
    have: ∀n:Fin 16,([48,49,50,51,52,53,54,55,56,57,65,66,67,68,69,70]:List UInt8).getD n.1 0≠10∧([48,49,50,51,52,53,54,55,56,57,65,66,67,68,69,70]:List UInt8).getD n.1 0≠32∧([48,49,50,51,52,53,54,55,56,57,65,66,67,68,69,70]:List UInt8).getD n.1 0≠126:=by decide
    exact this ⟨n,hn⟩
   · simp_all
  grind
theorem tM {w:aF}(h:b∈iG w):b≠10∧b≠32:=by
 unfold iG at h;split at h
 · grind
 · obtain⟨c,_,hc⟩:=List.mem_flatMap.1 h;grind[aB4]
theorem bR9 (w:aF):unW (iG w)=some w:=by
 unfold iG;split
 · rename_i h;subst h;rfl
 ·
  rename_i h;have hne:dA w≠[]:=by
   intro he;have:=aM6 w;rw[he]at this;exact h (List.eq_nil_of_length_eq_zero (by grind))
  have h126:dA w≠[126]:=by
   intro he;have hm:(126:UInt8)∈dA w:=by rw[he];simp
   obtain⟨c,_,hc⟩:=List.mem_flatMap.1 hm;exact(aB4 hc).2.2 rfl
  simp_all[unW,if_neg,aB3]
theorem pA {α β:Type}{f:α→Option β}: ∀{l:List α} {m:List β},l.mapM f=some m→(∀{g:β→α},(∀x y,f x=some y→g y=x)→m.map g=l)∧m.length=l.length
 |[],m,h=>by grind
 |a::l,m,h=>by
  rw[List.mapM_cons]at h;cases ha:f a with
  |none=>grind
  |some b=>
   rw[ha]at h;cases hl:l.mapM f with
   |none=>grind
   |some m'=>
    rw[hl]at h;cases h;obtain⟨h1,h2⟩:=pA hl;grind
theorem aB5 (l:List aF):gS l=mV 32 (l.map iG):=by
 cases l with
 |nil=>rfl
 |cons w l=>simp[gS,mV,List.flatMap_map]
variable {r:aF}
theorem cC6 {ws:List aF}(h:unL r=some ws):gS ws=r:=by
 have:=(pA h).1 (g:=iG) fun x y h=>cC5 h;rw[aB5,this,nW]
theorem aB6 : ∀l:List aF,(l.map iG).mapM unW=some l
 |[]=>rfl
 |w::l=>by rw[List.map_cons,List.mapM_cons,bR9,aB6 l];rfl
theorem bS0 {l:List aF}(h:l≠[]):unL (gS l)=some l:=by
 unfold unL;rw[aB5,nX (by simp_all) (by
  intro w hw b hb;obtain⟨v,_,rfl⟩:=List.mem_map.1 hw;exact(tM hb).2),aB6]
theorem bI8 {l:List aF}(h:b∈gS l):b≠10:=by
 cases l with
 |nil=>simp at h
 |cons w l=>
  simp only[gS,List.mem_append,List.mem_flatMap]at h;rcases h with h|⟨v,_,h⟩
  · exact(tM h).1
  · rcases List.mem_cons.1 h with rfl|h;all_goals grind[tM]
variable {ls:List (List aF)}
theorem bI9 (h:ls≠[]):fY ls=mV 10 (ls.map gS)++[10]:=by
 cases ls with
 |nil=>grind
 |cons l ls=>
  have key: ∀(l:List aF) (ls:List (List aF)),fY (l::ls)=mV 10 ((l::ls).map gS)++[10]:=by
   intro l ls;induction ls generalizing l with
   |nil=>simp[fY,mV,yR]
   |cons k ls ih=>
    grind[fY,yR,mV]
  grind
theorem pB (m:aF):gG (m++[10])=(aS 10 m).mapM unR:=by simp_all[uO,gG,if_neg,if_pos,List.dropLast_concat]
theorem bJ0 (h: ∀l∈ls,okL l=true):gG (fY ls)=some ls:=by
 by_cases hne:ls=[]
 · subst hne;simp[gG]
 ·
  rw[bI9 hne,pB,nX (by simpa using hne) (by
   intro w hw b hb;obtain⟨l,_,rfl⟩:=List.mem_map.1 hw;exact bI8 hb)]
  clear hne;induction ls with
  |nil=>rfl
  |cons l ls ih=>
   have hl:=h l List.mem_cons_self;have hr:unR (gS l)=some l:=by
    unfold unR;rw[bS0 ((kQ l).1 hl).1];simp only[hl,if_true]
   rw[List.map_cons,List.mapM_cons,hr,ih fun x hx=>h x (List.mem_cons_of_mem _ hx)];rfl
variable {rs:List aF}
theorem aP6 (h:rs.mapM unL=some ls):rs.mapM unR=if ls.all okL then some ls else none:=by
 induction rs generalizing ls with
 |nil=>grind
 |cons r rs ih=>
  rw[List.mapM_cons]at h;cases hr:unL r with
  |none=>grind
  |some l=>
   rw[hr]at h;cases hl:rs.mapM unL with
   |none=>grind
   |some m=>
    rw[hl]at h;cases h;rw[List.mapM_cons,ih hl];unfold unR;rw[hr];simp only[List.all_cons];by_cases h1:okL l=true
    · grind
    grind
theorem pQ (h:rs.mapM unL=none):rs.mapM unR=none:=by
 induction rs with
 |nil=>grind
 |cons r rs ih=>
  rw[List.mapM_cons]at h⊢;cases hr:unL r with
  |none=>unfold unR;grind
  |some l=>
   rw[hr]at h;have:rs.mapM unL=none:=by
    cases hl:rs.mapM unL with
    |none=>rfl
    |some m=>rw[hl]at h;cases h
   rw[ih this];cases unR r<;>rfl
variable {m:aF}
theorem aB7 (h:(aS 10 m).mapM unL=some ls):fY ls=m++[10]:=by
 have h1:=(pA h).1 (g:=gS) fun x y h=>cC6 h;have h2:=aX1 10 m;rw[←h1]at h2;rw[←h2];simp only[fY,List.flatMap_map];rfl
theorem bJ1 {b:aF}(hb: ¬262144<b.length)(hne:b≠[])(h:b.getD (b.length-1) 0≠10):eL b=2:=by
 have:gG b=none:=by
  unfold gG;rw[if_neg hne,if_neg];intro hl;obtain⟨m,rfl⟩:=kU hne hl;simp at h
 unfold eL;rw[if_neg hb,this]
theorem bJ2 (hb: ¬262144<(m++[10]).length)(h:(aS 10 m).mapM unL=none):eL (m++[10])=2:=by
 unfold eL;rw[if_neg hb,pB,pQ h]
theorem bS1 (hb: ¬262144<(m++[10]).length)(h:(aS 10 m).mapM unL=some ls):(iB ls=0→eL (m++[10])=0∧decO (m++[10])=ls)∧(iB ls≠0→eL (m++[10])=2):=by
 have hd:=aB7 h;have hv:=aP6 h;rw[←pB]at hv;by_cases hk:ls.all okL=true
 ·
  rw[if_pos hk]at hv;have hE:eL (m++[10])=if 1000<ls.length then 2 else 0:=by unfold eL;rw[if_neg hb,hv]
  by_cases hl:1000<ls.length
  · rw[if_pos hl]at hE;exact⟨fun he=>absurd (he.symm.trans (tC hl)) (by decide),fun _=>hE⟩
  ·
   rw[if_neg hl]at hE;have he:iB ls=0:=by
    rw[vK (by omega) (by simpa using hk),hd,if_neg hb]
   exact⟨fun _=>⟨hE,by unfold decO;rw[if_pos hE,hv];rfl⟩,fun hn=>absurd he hn⟩
 ·
  rw[if_neg hk]at hv;have hE:eL (m++[10])=2:=by unfold eL;rw[if_neg hb,hv]
  refine⟨fun he=>?_,fun _=>hE⟩;exfalso;apply hk;unfold iB at he;split at he
  · cases he
  ·
   split at he
   · rename_i l hf;have:=List.find?_some hf;exact absurd he (bB5 (by simpa using this))
   · rename_i hf;rw[List.find?_eq_none]at hf;rw[List.all_eq_true];intro l hl;simpa using hf l hl
def lsT (rows:List aF)(i:Nat):List (List aF):=(rows.take i).map fun r=>(unL r).getD []
variable {rows:List aF}
theorem bS2 (h:i<rows.length):lsT rows (i+1)=lsT rows i++[(unL rows[i]).getD []]:=by
 simp only[lsT,List.take_succ_eq_append_getElem h,List.map_append,List.map_cons,List.map_nil]
theorem aX2 (h:i≤rows.length):(lsT rows i).length=i:=by
 simp only[lsT,List.length_map,List.length_take];omega
theorem bS3 (h:i<(aS 32 r).length)(h2:(unW (aS 32 r)[i]).isSome=false):unL r=none:=
 oW (List.getElem_mem h) (by simpa using h2)
theorem cC7 (h:aN0 r (aS 32 r).length):unL r=some (wsT r (aS 32 r).length):=by
 unfold aN0 at h;rw[List.take_length]at h;unfold unL;rw[rJ [] h];simp only[wsT,List.take_length]
theorem cC8 (h: ∀r∈rows.take rows.length,(unL r).isSome=true):rows.mapM unL=some (lsT rows rows.length):=by
 rw[List.take_length]at h;rw[rJ [] h];simp only[lsT,List.take_length]
variable {n:Nat}
theorem bS4 (h: ∀r∈rows,r.length<n): ∀l∈lsT rows rows.length,l.length<n+1:=by
 intro l hl;simp only[lsT,List.take_length,List.mem_map]at hl;obtain⟨r,hr,rfl⟩:=hl;have h1:=h r hr;cases hu:unL r with
 |none=>simp
 |some ws=>
  have:=(pA hu).2;have h2:=eX 32 r;simp only[Option.getD_some];omega
@[simp] theorem cN0 (l:List W32)(i:Nat)(x:W32):CV.agg ((l.map w32).set i (w32 x))=ws (l.set i x):=by rw[←List.map_set];rfl
@[simp] theorem cN1 (l:List UInt8)(i:Nat)(x:UInt8):CV.agg ((l.map u8).set i (u8 x))=us (l.set i x):=by rw[←List.map_set];rfl
@[simp] theorem cR7 (b:List UInt8):wA b 0=wz 64:=rfl
@[simp] theorem cR8 (w:List W32):wB w 0=w:=rfl
def cS6 (s r:St)(j:Nat):List W32:=(s.l.zipWith (fun x y=>x+y) r.l).take j++s.l.drop j
@[simp] theorem cN2 (s r:St):cS6 s r 0=s.l:=rfl
section
variable {b:List UInt8}{j:Nat}(h0:64*j≤b.length)(h1:b.length<64*j+64)
include h0 h1
end
section
variable {b:List UInt8}{j:Nat}(h0:64*j≤b.length)(h1:b.length<64*j+64)
include h0 h1
end
@[simp] theorem cR9 (l:List UInt8):CV.agg (l.map u8)=us l:=rfl
def ob8 (s:St)(i:Nat):UInt8:=UInt8.ofNat ((gw s.l (i/4))>>>(24-8*(i%4))).toNat
def cS7 (s:St)(n:Nat):List UInt8:=itN (fun i l=>l.set i (ob8 s i)) n (uz 32)
@[simp] theorem cN3 (s:St):cS7 s 0=uz 32:=rfl
def cS8 (h:yQ):aF:=cJ7 h.1
def cS9 (d:Dig):aF:=[115,104,97,50,53,54,58]++cJ7 d.1
def numW (n:Int):aF:=Lib.itoa n
theorem aP7 {n:Int}(h:0≤n):numW n=Lib.decDigits n.natAbs:=by unfold numW Lib.itoa;rw[if_neg (by omega)];congr 1;omega
inductive Av where
 |i (n:Int)
 |l (n:Int)
 |h (x:yQ)
 |d (x:Dig)
 |s (w:aF)
def Av.w :Av→aF
 | .i n=>numW n
 | .l n=>numW n
 | .h x=>cS8 x
 | .d x=>cS9 x
 | .s w=>w
def Av.ok :Av→Prop
 | .i n=> -9223372036854775808≤n∧n≤9223372036854775807
 | .l n=> -9223372036854775808≤n∧n≤9223372036854775807
 |_=>True
def cC9 (c:UInt8):Nat:=if 48≤c.toNat∧c.toNat≤57 then c.toNat-48 else if 97≤c.toNat∧c.toNat≤102 then c.toNat-87 else 16
def hX (s:aF)(i:Nat):UInt8:=s.getD (2*i) 0
def hY (s:aF)(i:Nat):UInt8:=s.getD (2*i+1) 0
def hB (s:aF)(i:Nat):UInt8:=UInt8.ofNat (16*cC9 (hX s i)+cC9 (hY s i))
def hOk (s:aF)(i:Nat):Bool:=decide (cC9 (hX s i)<16)&&decide (cC9 (hY s i)<16)
def nY (s:aF)(n:Nat):Option (List UInt8):=if s.length=2*n∧(List.range n).all (hOk s)=true then some ((List.range n).map (hB s))else none
def UhSt (s:aF)(n i:Nat)(l:List UInt8):Prop:=l.length=n∧i≤n∧l.take i=(List.range i).map (hB s)∧ ∀j,j<i→hOk s j=true
theorem UhSt.init (s:aF){l:List UInt8}(h:l.length=n):UhSt s n 0 l:=⟨h,Nat.zero_le _,by simp,fun j hj=>by omega⟩
theorem UhSt.next {l:List UInt8}(h:UhSt s n i l)(hi:i<n)(hk:hOk s i=true):UhSt s n (i+1) (l.set i (hB s i)):=by
 obtain⟨h1,h2,h3,h4⟩:=h;refine⟨by simpa using h1,hi,?_,fun j hj=>?_⟩
 · rw[List.take_succ_eq_append_getElem (by rw[List.length_set];omega),List.getElem_set_self,List.take_set_of_le (Nat.le_refl _),h3,List.range_succ,List.map_append];rfl
 ·
  rcases Nat.lt_or_ge j i with h'|h'
  · exact h4 j h'
  ·
   have:j=i:=by omega
   rw[this];exact hk
theorem UhSt.fin {l:List UInt8}(h:UhSt s n n l)(hs:s.length=2*n):nY s n=some l:=by
 obtain⟨h1,h2,h3,h4⟩:=h;unfold nY;rw[if_pos ⟨hs,by rw[List.all_eq_true];intro j hj;exact h4 j (List.mem_range.1 hj)⟩,←h3,List.take_of_length_le (by omega)]
theorem UhSt.bad {l:List UInt8}(_:UhSt s n i l)(hi:i<n)(hk:hOk s i=false):nY s n=none:=by
 unfold nY;rw[if_neg];rintro⟨_,h⟩;have:=List.all_eq_true.1 h i (List.mem_range.2 hi);rw[hk]at this;cases this
theorem pR {l:List UInt8}(h:nY s n=some l):l.length=n:=by
 unfold nY at h;split at h
 · cases h;simp
 · cases h
def cP3 (s p:aF):Bool:=decide (p.length≤s.length)&&(s.take p.length==p)
def cP4 (s:aF):Option yQ:=match h:nY s 16 with|some l=>some ⟨l,pR h⟩|none=>none
def cT0 :aF:=[115,104,97,50,53,54,58]
def cT1 (s:aF):Option Dig:=if cP3 s cT0 then match h:nY (s.drop 7) 32 with|some l=>some ⟨l,pR h⟩|none=>none else none
end Go.Pl
