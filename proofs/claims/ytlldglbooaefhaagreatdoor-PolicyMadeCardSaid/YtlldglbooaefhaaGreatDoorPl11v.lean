/- The lines of a root document, and its encoded form (11.2), in plain Lean. By an AI agent. -/
import Derived.Test.YtlldglbooaefhaaGreatDoorHzU1
import Derived.Test.YtlldglbooaefhaaGreatDoorHlTlaw
import Derived.Test.YtlldglbooaefhaaGreatDoorHlIt
import Derived.Test.YtlldglbooaefhaaGreatDoorHlZb
import Derived.Lib.ItoaLen
import Derived.Sort.Grow
import Derived.Sort.EncStr
set_option linter.unusedSimpArgs false
set_option linter.unusedVariables false
set_option linter.defProp false
namespace Go.Proofs.YtlldglbooaefhaaGreatDoor
open Go Go.Hl Go.Pl
set_option maxRecDepth 10000
set_option maxHeartbeats 16000000
theorem aJ0 (l:List aG)(hl:l.length<2^40):bW Tryz.prog 79 [.slc (l.map .str)] (fun v=>v= .int .i64 (rM l)):=by
 refine FW Tryz.func79 ?_;refine R0 ?_;refine aC fun K hK=>?_;refine aL ?_;refine aC fun K hK=>Rg ?_;iterate 4 refine S0 ?_
 refine T2 (hK _ _ _ ?_);clear hK K;refine aJ (b:=(l.length:Int)==0) rfl (fun hb=>?_) (fun hb=>?_)
 · refine R0 ?_;refine aF (RT Tryz.results79 ?_);exact aH [] (.int .i64 1) rfl (by rw[rM,if_pos (by simp at hb;simp[hb])])
 have hn0:l.length≠0:=by simp at hb;simp[hb]
 clear hb;refine aC fun K hK=>Rg ?_;iterate 4 refine S0 ?_
 refine T2 (hK _ _ _ ?_);clear hK K;refine aJ (b:=decide ((120:Int)<l.length)) rfl (fun hb=>?_) (fun hb=>?_)
 · refine R0 ?_;refine aF (RT Tryz.results79 ?_);exact aH [] (.int .i64 3) rfl (by rw[rM,if_neg hn0,if_pos (by simp at hb;omega)])
 refine aK ?_;refine T0 (hK _ _ _ ?_);clear hK K;refine aC fun K hK=>?_;have hn1:l.length≤120:=by simp at hb;omega
 clear hb;refine R0 ?_;refine aL ?_;refine bD (α:={i:Nat//i≤l.length∧ ∀x∈l.take i,decide (32768<x.length)=false}) (fun i=>(fin [(13,.c (.slc (l.map .str))),(14,.c (.int .i64 l.length)),(15,.c (.int .i64 i.1))],fob [])) 100 (fun i=>l.length-i.1) ⟨0,by omega,by simp⟩ (fF) ?_;rintro⟨i,hi,h0⟩;refine R0 ?_;refine aC fun K hK=>?_;refine aJ (b:=decide ((i:Int)<l.length)) rfl (fun hb=>?_) (fun hb=>?_)
 ·
  have hlt:i<l.length:=by simpa using hb
  clear hb;refine aK ?_;refine T0 (hK _ _ _ ?_);clear hK K;refine aC fun K hK=>?_;refine aL ?_;have F:=aI @Int.natCast_nonneg (aI @Int.ofNat_lt (aI hlt (nM hlt)));refine RF ?_;refine R0 ?_;refine aJ (b:=decide ((32768:Int)<l[i].length)) rfl (fun hb=>?_) (fun hb=>?_)
  · refine R0 ?_;refine aF (RT Tryz.results79 ?_);exact aH [] (.int .i64 3) rfl (by rw[rM,if_neg hn0,if_neg (by omega),if_pos];simp only[List.any_eq_true,decide_eq_true_eq];exact⟨_,List.getElem_mem hlt,by simp at hb;omega⟩)
  refine aK ?_;refine T0 (hK _ _ _ ?_);clear hK K;refine aM (by kernel_rfl) ?_;refine TQ (lK i) ?_;have hb2:decide (32768<l[i].length)=false:=by simp at hb⊢;omega
  refine⟨⟨i+1,hlt,bA3 (p:=fun x=>decide (32768<x.length)) hlt hb2 h0⟩,fF,?_⟩;show l.length-(i+1)<l.length-i;omega
 refine bA (T3 ?_);clear hK K;refine AX (hK _ _ _ ?_);clear hK K;refine R0 ?_;refine aF (RT Tryz.results79 ?_);have hei:i=l.length:=by simp at hb;omega
 subst hei;rw[List.take_length]at h0;exact aH [] (.int .i64 0) rfl (by rw[rM,if_neg hn0,if_neg (by omega),if_neg];simp only[List.any_eq_true,not_exists,not_and];intro x hx;simp[h0 x hx])
theorem cB3 (ls:List (List aG))(h0:ls.length<2^40)(h1: ∀l∈ls,l.length<2^40):mR Tryz.prog 53 [.slc (ls.map fun l=> .slc (l.map .str))] (fun u v=>u= .slc ((pW ls).map eB)∧v= .int .i64 (lF ls)):=by
 refine FW Tryz.func53 ?_;refine R0 ?_;refine aC fun K hK=>?_;refine R0 ?_;refine aJ (b:=decide ((1000:Int)<ls.length)) rfl (fun hb=>?_) (fun hb=>?_)
 · refine R0 ?_;refine aF (RT Tryz.results53 ?_);have hE:=aZ4 (ls:=ls) (by simp at hb;omega);refine bF [] (.slc []) (.int .i64 3) ?_ ⟨by rw[vG (by rw[hE];decide)];rfl,by rw[hE]⟩;simp[HV.close,HV.closeL,CV.denil,CV.denilL,HV.norm,HV.toC,HV.toCL]
 refine aK ?_;refine T0 (hK _ _ _ ?_);clear hK K;refine aC fun K hK=>?_;have hn:ls.length≤1000:=by simp at hb;omega
 clear hb;refine R0 ?_;refine aL ?_;refine bD (α:={i:Nat//i≤ls.length∧ ∀x∈ls.take i,okL x=true}) (fun i=>(fin [(0,.c (.slc (ls.map fun l=> .slc (l.map .str)))),(20,.c (.slc (ls.map fun l=> .slc (l.map .str)))),(21,.c (.int .i64 ls.length)),(22,.c (.int .i64 i.1))],fob [])) 100 (fun i=>ls.length-i.1) ⟨0,by omega,by simp⟩ (fF) ?_;rintro⟨i,hi,hk⟩;refine R0 ?_;refine aC fun K hK=>?_;refine aJ (b:=decide ((i:Int)<ls.length)) rfl (fun hb=>?_) (fun hb=>?_)
 ·
  have hlt:i<ls.length:=by simpa using hb
  clear hb;have hl1:=h1 ls[i] (List.getElem_mem hlt);refine aK ?_;refine T0 (hK _ _ _ ?_);clear hK K;refine aC fun K hK=>?_;refine aL ?_;have F:=aI @Int.natCast_nonneg (aI @Int.ofNat_lt (aI hlt (nM hlt)));refine RF ?_;refine aC fun K hK=>Rg ?_;refine S0 ?_;refine HS rfl rfl fun K' hK'=>T5 ?_;refine C1 (aJ0 ls[i] hl1) ?_;rintro u rfl;refine AX (hK' _ _ ?_);clear hK' K';refine S0 ?_;refine T2 (hK _ _ _ ?_);clear hK K;refine R0 ?_;refine aJ (b:=rM ls[i] !=0) rfl (fun hb=>?_) (fun hb=>?_)
  · refine R0 ?_;refine aF (RT Tryz.results53 ?_);have hE:=bG9 hn hlt hk (by simpa[okL]using hb);refine bF [] (.slc []) (.int .i64 (rM ls[i])) ?_ ⟨by rw[vG (by rw[hE];simpa using hb)];rfl,by rw[hE]⟩;simp[HV.close,HV.closeL,CV.denil,CV.denilL,HV.norm,HV.toC,HV.toCL]
  refine aK ?_;refine T0 (hK _ _ _ ?_);clear hK K;refine aM (by kernel_rfl) ?_;refine TQ (lK i) ?_;refine⟨⟨i+1,hlt,?_⟩,fF,?_⟩
  ·
   intro x hx;rw[List.take_succ_eq_append_getElem hlt,List.mem_append,List.mem_singleton]at hx;rcases hx with hx|rfl
   · exact hk x hx
   simpa[okL]using hb
  show ls.length-(i+1)<ls.length-i;omega
 have hei:i=ls.length:=by simp at hb;omega
 subst hei;clear hb;rw[List.take_length]at hk;have hne: ∀l∈ls,l≠[]:=fun l hl=>((nV l).1 (hk l hl)).1;have hsd:=bR9 hk;have hdl:=vF hne;have hE:=aU0 hn hk;have hst: ∀j,sumD (ls.take j)≤sumD ls:=fun j=>aB1 ls j;have hdt: ∀j,(gO (ls.take j)).length≤sumD ls:=fun j=>by rw[vF fun l hl=>hne l (List.mem_of_mem_take hl)];exact hst j
 refine bA (T3 ?_);clear hK K;refine AX (hK _ _ _ ?_);clear hK K;refine R0 ?_;refine aC fun K hK=>?_;refine R0 ?_;refine aL ?_;refine bD (α:={i:Nat//i≤ls.length}) (fun i=>(fin [(0,.c (.slc (ls.map fun l=> .slc (l.map .str)))),(7,.c (.int .i64 (sumD (ls.take i.1):Nat))),(32,.c (.slc (ls.map fun l=> .slc (l.map .str)))),(33,.c (.int .i64 ls.length)),(34,.c (.int .i64 i.1))],fob [])) 200 (fun i=>ls.length-i.1) ⟨0,by omega⟩ (fF) ?_;rintro⟨i,hi⟩;refine R0 ?_;refine aC fun K hK=>?_;refine aJ (b:=decide ((i:Int)<ls.length)) rfl (fun hb=>?_) (fun hb=>?_)
 ·
  have hlt:i<ls.length:=by simpa using hb
  clear hb;have hst1:=aZ3 hlt;have hst2:=hst (i+1);obtain⟨l,hl⟩: ∃l,l=ls[i]:=⟨_,rfl⟩;obtain⟨hl0,hl1,hl2⟩:=(nV l).1 (hk l (by rw[hl];exact List.getElem_mem hlt));have hln:nth (ls.map fun l=>CV.slc (l.map .str)) i= .slc (l.map .str):=by rw[bN hlt,hl]
  rw[←hl]at hst1;refine aK ?_;refine T0 (hK _ _ _ ?_);clear hK K;refine aC fun K hK=>?_;refine aL ?_;have F:=aI @Int.natCast_nonneg (aI @Int.ofNat_lt (aI hlt hln));refine RF ?_;refine R0 ?_;refine aL ?_;refine bD (α:={i:Nat//i≤l.length}) (fun k=>(fin [(0,.c (.slc (ls.map fun l=> .slc (l.map .str)))),(7,.c (.int .i64 (sumD (ls.take i)+iQ (l.take k.1):Nat))),(32,.c (.slc (ls.map fun l=> .slc (l.map .str)))),(33,.c (.int .i64 ls.length)),(34,.c (.int .i64 i)),(38,.c (.slc (l.map .str))),(39,.c (.int .i64 l.length)),(40,.c (.int .i64 k.1))],fob [])) 300 (fun k=>l.length-k.1) ⟨0,by omega⟩ (fF) ?_;rintro⟨k,hk'⟩;refine R0 ?_;refine aC fun K hK=>?_;refine aJ (b:=decide ((k:Int)<l.length)) rfl (fun hb=>?_) (fun hb=>?_)
  ·
   have hlk:k<l.length:=by simpa using hb
   clear hb;have hlt1:=aZ2 hlk;have hlt2:=pV l (k+1);have hw2:=hl2 l[k] (List.getElem_mem hlk);refine aK ?_;refine T0 (hK _ _ _ ?_);clear hK K;refine aC fun K hK=>?_;refine aL ?_;have F:=aI @Int.natCast_nonneg (aI @Int.ofNat_lt (aI hlk (nM hlk)));refine RF ?_;refine Rg ?_;have F:=aI (IntWalk.i64_in _ (show-9223372036854775808≤((sizeW l[k]:Nat):Int)+1∧((sizeW l[k]:Nat):Int)+1≤9223372036854775807 by omega)) (IntWalk.i64_in _ (show-9223372036854775808≤((sumD (ls.take i)+iQ (l.take k):Nat):Int)+(((sizeW l[k]:Nat):Int)+1)∧((sumD (ls.take i)+iQ (l.take k):Nat):Int)+(((sizeW l[k]:Nat):Int)+1)≤9223372036854775807 by omega));iterate 2 refine SF ?_
   refine HS rfl rfl fun K' hK'=>T6 ?_;refine C1 (aU9 l[k] (by omega)) ?_;rintro u rfl;refine AX (hK' _ _ ?_);clear hK' K';iterate 3 refine SF ?_
   refine T2 (hK _ _ _ ?_);clear hK K;refine aM (by kernel_rfl) ?_;refine TQ (lK k) ?_;have he:((sumD (ls.take i)+iQ (l.take k):Nat):Int)+(((sizeW l[k]:Nat):Int)+1)=((sumD (ls.take i)+iQ (l.take (k+1)):Nat):Int):=by omega
   simp only[he];refine⟨⟨k+1,hlk⟩,fF,?_⟩;show l.length-(k+1)<l.length-k;omega
  have hek:k=l.length:=by simp at hb;omega
  subst hek;clear hb;refine bA (T3 ?_);clear hK K;refine AX (hK _ _ _ ?_);clear hK K;refine aM (by kernel_rfl) ?_;refine TQ (lK i) ?_;have he:((sumD (ls.take i)+iQ (l.take l.length):Nat):Int)=((sumD (ls.take (i+1)):Nat):Int):=by rw[List.take_length];omega
  simp only[he];refine⟨⟨i+1,hlt⟩,fF,?_⟩;show ls.length-(i+1)<ls.length-i;omega
 have hei:i=ls.length:=by simp at hb;omega
 subst hei;clear hb;refine bA (T3 ?_);clear hK K;refine AX (hK _ _ _ ?_);clear hK K;refine aC fun K hK=>?_;have F:=@List.take_length.{0};refine RF ?_;refine aJ (b:=decide ((262144:Int)<(sumD ls:Nat))) rfl (fun hb=>?_) (fun hb=>?_)
 · refine R0 ?_;refine aF (RT Tryz.results53 ?_);rw[if_pos (by rw[hdl];simp at hb;omega)]at hE;refine bF [] (.slc []) (.int .i64 3) ?_ ⟨by rw[vG (by rw[hE];decide)];rfl,by rw[hE]⟩;simp[HV.close,HV.closeL,CV.denil,CV.denilL,HV.norm,HV.toC,HV.toCL]
 refine aK ?_;refine T0 (hK _ _ _ ?_);clear hK K;have hle:sumD ls≤262144:=by simp at hb;omega
 have hz:((sumD ls:Nat):Int)≤140737488355328:=by omega
 clear hb;rw[if_neg (by rw[hdl];omega)]at hE;have hO:=aB2 hE;have F:=aI @Int.natCast_nonneg (aI hz (aI @Int.mul_one @List.take_length.{0}));refine RF ?_;refine aC fun K hK=>?_;refine R0 ?_;refine aL ?_;refine bD (α:={i:Nat//i≤ls.length}) (fun i=>(fin [(12,.own 216 (gO (ls.take i.1)).length),(55,.c (.slc (ls.map fun l=> .slc (l.map .str)))),(56,.c (.int .i64 ls.length)),(57,.c (.int .i64 i.1))],fob [(216,.row 5 1 ((gO (ls.take i.1)).map eB))])) 400 (fun i=>ls.length-i.1) ⟨0,by omega⟩ (fF) ?_;rintro⟨i,hi⟩;refine R0 ?_;refine aC fun K hK=>?_;refine aJ (b:=decide ((i:Int)<ls.length)) rfl (fun hb=>?_) (fun hb=>?_)
 ·
  have hlt:i<ls.length:=by simpa using hb
  clear hb;have hdt1:=aZ1 hlt;have hdt0:=hdt i;obtain⟨l,hl⟩: ∃l,l=ls[i]:=⟨_,rfl⟩;have hok:=hk l (by rw[hl];exact List.getElem_mem hlt);have hsl:=aT9 hok;obtain⟨hl0,hl1,hl2⟩:=(nV l).1 hok;have hln:nth (ls.map fun l=>CV.slc (l.map .str)) i= .slc (l.map .str):=by rw[bN hlt,hl]
  rw[←hl]at hdt1;refine aK ?_;refine T0 (hK _ _ _ ?_);clear hK K;refine aC fun K hK=>?_;refine aL ?_;have F:=aI @Int.natCast_nonneg (aI @Int.ofNat_lt (aI hlt hln));refine RF ?_;refine aC fun K hK=>?_;refine R0 ?_;refine aL ?_;refine bD (α:={i:Nat//i≤l.length}) (fun k=>(fin [(12,.own 216 (gO (ls.take i)++gY (l.take k.1)).length),(55,.c (.slc (ls.map fun l=> .slc (l.map .str)))),(56,.c (.int .i64 ls.length)),(57,.c (.int .i64 i)),(61,.c (.slc (l.map .str))),(62,.c (.int .i64 l.length)),(63,.c (.int .i64 k.1))],fob [(216,.row 5 1 ((gO (ls.take i)++gY (l.take k.1)).map eB))])) 500 (fun k=>l.length-k.1) ⟨0,by omega⟩ (fF) ?_;rintro⟨k,hk'⟩;have hsw:=bR8 (l.take k);have hst2:=pV l k;refine R0 ?_;refine aC fun K hK=>?_;refine aJ (b:=decide ((k:Int)<l.length)) rfl (fun hb=>?_) (fun hb=>?_)
  ·
   have hlk:k<l.length:=by simpa using hb
   clear hb;have hw2:=hl2 l[k] (List.getElem_mem hlk);have hel:=vD l[k];have hsz:=vE l[k];have hsp:=aY8 l[k];have hpe:0<(jN l[k]).length:=by omega
   have htk:=aZ0 hlk;have hbe:(gO (ls.take i)).length+(gY (l.take k)).length+(jN l[k]).length≤140737488355328:=by omega
   have hbe1:(gO (ls.take i)).length+(gY (l.take k)).length+1+(jN l[k]).length≤140737488355328:=by omega
   refine aK ?_;refine T0 (hK _ _ _ ?_);clear hK K;refine aC fun K hK=>?_;refine aL ?_;refine aC fun K hK=>Rg ?_;have F:=aI @Int.natCast_nonneg (aI @Int.ofNat_lt (aI hlk (nM hlk)));iterate 5 refine SF ?_
   refine T2 (hK _ _ _ ?_);clear hK K;refine aC fun K hK=>?_;refine R0 ?_;refine aJ (b:=decide ((0:Int)<k)) rfl (fun hb=>?_) (fun hb=>?_)
   ·
    refine Rg ?_;have F:=aI @List.length_append.{0} @List.length_map.{0,0};iterate 4 refine SF ?_
    refine T2 (hK _ _ _ ?_);clear hK K;refine Rg ?_;have F:=aI @List.length_append.{0} (aI @List.length_map.{0,0} (aI hpe (aI hbe hbe1)));iterate 2 refine SF ?_
    refine HS rfl rfl fun K' hK'=>T6 ?_;refine C1 (aV0 l[k] (by omega)) ?_;rintro u rfl;refine AX (hK' _ _ ?_);clear hK' K';iterate 2 refine SF ?_
    refine T2 (hK _ _ _ ?_);clear hK K;refine aM (by kernel_rfl) ?_;refine TQ (lK k) ?_;have hk0:k≠0:=by simp at hb;omega
    refine⟨⟨k+1,hlk⟩,aN (by omega) ?_ ?_,?_⟩
    · rw[htk,if_neg hk0];simp[aZ,upd_at,fin_at,HV.men];omega
    · rw[htk,if_neg hk0];simp only[List.map_append,←List.append_assoc];exact⟨rfl,by omega,trivial,trivial⟩
    show l.length-(k+1)<l.length-k;omega
   refine aK ?_;refine T0 (hK _ _ _ ?_);clear hK K;refine Rg ?_;have F:=aI @List.length_append.{0} (aI @List.length_map.{0,0} (aI hpe (aI hbe hbe1)));iterate 2 refine SF ?_
   refine HS rfl rfl fun K' hK'=>T6 ?_;refine C1 (aV0 l[k] (by omega)) ?_;rintro u rfl;refine AX (hK' _ _ ?_);clear hK' K';iterate 2 refine SF ?_
   refine T2 (hK _ _ _ ?_);clear hK K;refine aM (by kernel_rfl) ?_;refine TQ (lK k) ?_;have hk0:k=0:=by simp at hb;omega
   refine⟨⟨k+1,hlk⟩,aN (by omega) ?_ ?_,?_⟩
   · rw[htk,if_pos hk0];simp[aZ,upd_at,fin_at,HV.men];omega
   · rw[htk,if_pos hk0,List.nil_append];simp only[List.map_append,←List.append_assoc];exact⟨rfl,by omega,trivial,trivial⟩
   show l.length-(k+1)<l.length-k;omega
  have hek:k=l.length:=by simp at hb;omega
  subst hek;clear hb;rw[List.take_length]at*;refine bA (T3 ?_);clear hK K;refine AX (hK _ _ _ ?_);clear hK K;refine Rg ?_;have F:=aI @List.length_append.{0} @List.length_map.{0,0};iterate 4 refine SF ?_
  refine T2 (hK _ _ _ ?_);clear hK K;refine aM (by kernel_rfl) ?_;refine TQ (lK i) ?_;refine⟨⟨i+1,hlt⟩,aN (by omega) ?_ ?_,?_⟩
  · rw[hdt1,aH3];simp[aZ,upd_at,fin_at,HV.men];omega
  · rw[hdt1,aH3];simp only[List.map_append,←List.append_assoc];exact⟨rfl,by omega,trivial,trivial⟩
  show ls.length-(i+1)<ls.length-i;omega
 refine bA (T3 ?_);clear hK K;refine AX (hK _ _ _ ?_);clear hK K;refine R0 ?_;refine aF (RT Tryz.results53 ?_);have hei:i=ls.length:=by simp at hb;omega
 subst hei;refine bF [216] (.slc ((gO ls).map eB)) (.int .i64 0) ?_ ⟨by rw[hO],by rw[hE]⟩;rw[List.take_length];simp[HV.close,fob_at,upd_at,HV.norm,HV.toC,HV.closeL,HV.toCL,List.take_of_length_le,CV.denil,dW]
theorem bS8 (v:CV):nth [v] 0=v:=rfl
theorem vS (c:UInt8):(u8 c).denil=u8 c:=rfl
theorem denilL_u8 : ∀bs:List UInt8,CV.denilL (bs.map u8)=bs.map u8
 |[]=>rfl
 |b::bs=>by simp only[List.map_cons,CV.denilL,denilL_u8 bs];rfl
theorem bS9 (l:List UInt8)(c:UInt8):bW Tryz.prog 142 [.slc (l.map u8),u8 c] (fun v=>v= .int .i64 (dH l c)):=
 cA9 (f:=142) (fn:=Tryz.f142) Tryz.func142 (by kernel_rfl) (by kernel_rfl) (by kernel_rfl) (by kernel_rfl) l c
theorem bI5 (l:List UInt8)(c:UInt8):bW Tryz.prog 141 [.str l,u8 c] (fun v=>v= .int .i64 (dH l c)):=
 bS1 (f:=141) (fn:=Tryz.f141) Tryz.func141 (by kernel_rfl) (by kernel_rfl) (by kernel_rfl) (by kernel_rfl) l c
theorem cB4 (l:List UInt8)(c:UInt8):bW Tryz.prog 122 [.slc (l.map u8),u8 c] (fun v=>v= .int .i64 (dH l c)):=by
 refine FW Tryz.func122 ?_;have F:=rI;refine RF ?_;refine aC fun K hK=>Rg ?_;have F:=aI rI (aI @denilL_u8 @vS);iterate 2 refine SF ?_
 refine HS rfl rfl fun K' hK'=>T6 ?_;refine C2 (bS9 l c) ?_;rintro u rfl;refine AX (hK' _ _ ?_);clear hK' K';refine SF ?_;simp only[sE,↓reduceIte,simprocAttr,rI];refine AX (hK _ _ _ ?_);clear hK K;refine aF ?_;simp only[gE,Tryz.results122,fI,gD,eT,↓sP,sA,tyS,simprocAttr,rI];exact aH [] (.int .i64 (dH l c)) rfl rfl
theorem bI6 (l:List UInt8)(c:UInt8):bW Tryz.prog 121 [.str l,u8 c] (fun v=>v= .int .i64 (dH l c)):=by
 refine FW Tryz.func121 ?_;have F:=rI;refine RF ?_;refine aC fun K hK=>Rg ?_;have F:=aI rI (aI @denilL_u8 @vS);iterate 2 refine SF ?_
 refine HS rfl rfl fun K' hK'=>T6 ?_;refine C2 (bI5 l c) ?_;rintro u rfl;refine AX (hK' _ _ ?_);clear hK' K';refine SF ?_;simp only[sE,↓reduceIte,simprocAttr,rI];refine AX (hK _ _ _ ?_);clear hK K;refine aF ?_;simp only[gE,Tryz.results121,fI,gD,eT,↓sP,sA,tyS,simprocAttr,rI];exact aH [] (.int .i64 (dH l c)) rfl rfl
theorem qE (l:List UInt8)(c:UInt8):bW Tryz.prog 104 [.str l,u8 c] (fun v=>v= .int .i64 (dH l c)):=by
 refine FW Tryz.func104 ?_;have F:=rI;refine RF ?_;refine aC fun K hK=>Rg ?_;have F:=aI rI (aI @denilL_u8 @vS);iterate 2 refine SF ?_
 refine HS rfl rfl fun K' hK'=>T6 ?_;refine C2 (bI6 l c) ?_;rintro u rfl;refine AX (hK' _ _ ?_);clear hK' K';refine SF ?_;simp only[sE,↓reduceIte,simprocAttr,rI];refine AX (hK _ _ _ ?_);clear hK K;refine aF ?_;simp only[gE,Tryz.results104,fI,gD,eT,↓sP,sA,tyS,simprocAttr,rI];exact aH [] (.int .i64 (dH l c)) rfl rfl
theorem yS (l:List UInt8)(c:UInt8):bW Tryz.prog 105 [.slc (l.map u8),.slc [u8 c]] (fun v=>v= .int .i64 (dH l c)):=by
 refine FW Tryz.func105 ?_;have F:=rI;refine RF ?_;refine RF ?_;refine aC fun K hK=>?_;refine aL ?_;refine RF ?_;refine aJ (b:=(1:Int)==0) rfl (fun hb=>?_) (fun hb=>?_)
 · exact absurd hb (by decide)
 refine RF ?_;refine aJ (b:=(1:Int)==1) rfl (fun hb=>?_) (fun hb=>?_)
 ·
  refine aC fun K hK=>Rg ?_;have F:=aI rI (aI @u8.eq_1 (aI @bS8 @denilL_u8));iterate 4 refine SF ?_
  refine HS rfl rfl fun K' hK'=>T6 ?_;refine C2 (cB4 l c) ?_;rintro u rfl;refine AX (hK' _ _ ?_);clear hK' K';refine SF ?_;simp only[sE,↓reduceIte,simprocAttr,rI];refine AX (hK _ _ _ ?_);clear hK K;refine aF ?_;simp only[gE,Tryz.results105,fI,gD,eT,↓sP,sA,tyS,simprocAttr,rI];exact aH [] (.int .i64 (dH l c)) rfl rfl
 exact absurd hb (by decide)
theorem bT0 (l:List UInt8)(c:UInt8)(hl:l.length<2^40):aB4 Tryz.prog 85 [.slc (l.map u8),.slc [u8 c]] (fun x y f=> ∃(li re:List UInt8) (fd:Bool),x= .slc (li.map u8)∧y= .slc (re.map u8)∧f= .bool fd∧CutR l c li re fd):=by
 refine FW Tryz.func85 ?_;have F:=rI;refine RF ?_;refine aC fun K hK=>?_;refine aC fun K hK=>Rg ?_;have F:=aI rI @denilL_u8;iterate 2 refine SF ?_
 refine HS rfl rfl fun K' hK'=>T6 ?_;refine C2 (yS l c) ?_;rintro u rfl;refine AX (hK' _ _ ?_);clear hK' K';refine SF ?_;simp only[sE,↓reduceIte,simprocAttr,rI];refine AX (hK _ _ _ ?_);clear hK K;have F:=rI;refine RF ?_;refine aJ (b:=decide ((0:Int)≤dH l c)) rfl (fun hb=>?_) (fun hb=>?_)
 ·
  have hn: ¬dH l c<0:=by simp at hb;omega
  obtain⟨i,hi,hil,hsp⟩:=dX hn;have hi':=hi;rw[hi];refine aC fun K hK=>QR ?_;have F:=aI rI (aI @Int.natCast_nonneg (aI @Int.ofNat_le (aI @Int.sub_zero (aI @Nat.sub_zero (aI @List.drop_zero.{0} (aI @mN (aI @denilL_u8 (aI @List.length_map.{0,0} (show IntKind.i64.wrap ((i:Int)+1)=((i+1:Nat):Int)from by rw[IntWalk.i64_in _ (by omega)];rfl)))))))));iterate 12 refine SF ?_
  simp only[sE,↓reduceIte,simprocAttr,rI];refine AX (hK _ _ _ ?_);clear hK K;refine aF ?_;simp only[gE,Tryz.results85,fI,gD,eT,↓sP,sA,tyS,simprocAttr,rI];refine jC [] (.slc ((l.take i).map u8)) (.slc ((l.drop (i+1)).map u8)) (.bool true) ?_ ⟨_,_,_,rfl,rfl,rfl,.inr ⟨rfl,i,hi,hil,rfl,rfl⟩⟩;simp[HV.close,HV.closeL,HV.norm,HV.toC,HV.toCL,CV.denil,denilL_u8];exact⟨by rw[←List.map_take,denilL_u8],by rw[←List.map_drop,←List.map_take,denilL_u8,List.take_of_length_le (by simp)]⟩
 have hn:dH l c<0:=by simp at hb;omega
 refine aK ?_;refine TQ rI ?_;refine AX (hK _ _ _ ?_);clear hK K;refine aC fun K hK=>Rg ?_;iterate 4 refine SF ?_
 simp only[sE,↓reduceIte,simprocAttr,rI];refine AX (hK _ _ _ ?_);clear hK K;refine aF ?_;simp only[gE,Tryz.results85,fI,gD,eT,↓sP,sA,tyS,simprocAttr,rI];refine jC [] (.slc (l.map u8)) (.slc []) (.bool false) ?_ ⟨l,[],false,rfl,rfl,rfl,.inl ⟨rfl,hn,rfl,rfl⟩⟩;simp[HV.close,HV.closeL,HV.norm,HV.toC,HV.toCL,CV.denil,denilL_u8]
theorem bT1 (l:List UInt8)(c:UInt8):aU7 Tryz.prog 106 126 [.slc (l.map u8),.slc [u8 c],.int .i64 0] [(47,.slc [u8 c]),(47,.slc (l.map u8)),(3,.int .i64 0)]:=by
 refine FW Tryz.func106 ?_;refine aC fun K hK=>Rg ?_;have F:=rI;iterate 4 refine SF ?_
 simp only[sE,↓reduceIte,simprocAttr,rI];refine AX (hK _ _ _ ?_);clear hK K;refine RF ?_;refine aF ?_;simp only[gE,Tryz.results106,fI,gD,eT,↓sP,sA,tyS,simprocAttr,rI];refine rS (gf:=126) (bs:=[(47,.slc [u8 c]),(47,.slc (l.map u8)),(3,.int .i64 0)]) (ids:=[4,0,8]) rfl (by simp) (by decide) ?_ ?_
 ·
  intro j x hx
  match j,hx with
  |0,hx=>cases hx;rfl
  |1,hx=>cases hx;rfl
  |2,hx=>cases hx;rfl
 intro x hx;simp only[List.mem_cons,List.not_mem_nil,or_false]at hx;rcases hx with rfl|rfl|rfl
 · rfl
 · exact congrArg CV.slc (denilL_u8 l)
 rfl
theorem bA7 (l:List UInt8)(c:UInt8):aU7 Tryz.prog 86 126 [.slc (l.map u8),.slc [u8 c]] [(47,.slc [u8 c]),(47,.slc (l.map u8)),(3,.int .i64 0)]:=by
 refine FW Tryz.func86 ?_;have F:=rI;refine RF ?_;refine aC fun K hK=>Rg ?_;iterate 2 refine S0 ?_ (e:=fun _ h_=>by simp only[sH,↓sP,sA,tyS,simprocAttr,rI,denilL_u8,lU,gG,List.range',List.map_cons,List.map_nil];exact AX h_)
 refine HS rfl rfl fun K' hK'=>?_;simp only[sH,↓sP,sA,tyS,simprocAttr,rI,denilL_u8,lU,gG,List.range',List.map_cons,List.map_nil];refine rR (args:=[_,_,_]) (bT1 l c) (by simp) ⟨rfl,rfl,rfl,rfl⟩ ?_;refine AX (hK' _ _ ?_);clear hK' K';refine S0 ?_ (e:=fun _ h_=>by simp only[sH,↓sP,sA,tyS,simprocAttr,rI,denilL_u8,lU,gG,List.range',List.map_cons,List.map_nil];exact AX h_);simp only[sE,↓reduceIte,simprocAttr,rI];refine AX (hK _ _ _ ?_);clear hK K;refine aF ?_;simp only[gE,Tryz.results86,fI,gD,eT,↓sP,sA,tyS,simprocAttr,rI];refine rS (gf:=126) (bs:=[(47,.slc [u8 c]),(47,.slc (l.map u8)),(3,.int .i64 0)]) (ids:=[12,13,14]) rfl (by simp) (by decide) ?_ ?_
 ·
  intro j x hx
  match j,hx with
  |0,hx=>cases hx;rfl
  |1,hx=>cases hx;rfl
  |2,hx=>cases hx;rfl
 intro x hx;simp only[List.mem_cons,List.not_mem_nil,or_false]at hx;rcases hx with rfl|rfl|rfl
 · rfl
 · exact congrArg CV.slc (denilL_u8 l)
 rfl
end Go.Proofs.YtlldglbooaefhaaGreatDoor
namespace Go.Pl
open Go Go.Hl
theorem aQ2 {c:UInt8}{l:List UInt8}(h:(aR c l).length=1):aR c l=[l]:=by
 by_cases hn:dH l c<0;all_goals grind[mP,dX,List.length_pos_iff,cR,List.length_cons]
def SplSt (l:aG)(c:UInt8)(i:Nat)(rest:aG)(a:List aG):Prop:=
 a.length=(aR c l).length∧a.take i=(aR c l).take i∧(aR c l).drop i=aR c rest∧i<(aR c l).length∧rest.length≤l.length
section
variable {l rest:aG}{c:UInt8}{i k:Nat}{a:List aG}
theorem SplSt.init (l:aG)(c:UInt8):SplSt l c 0 l (List.replicate (aR c l).length []):=
 ⟨by simp,by simp,rfl,List.length_pos_iff.2 (cR c l),Nat.le_refl _⟩
theorem SplSt.next (h:SplSt l c i rest a)(hk:dH rest c=(k:Int)):k<rest.length∧SplSt l c (i+1) (rest.drop (k+1)) (a.set i (rest.take k)):=by
 obtain⟨h1,h2,h3,h4,h5⟩:=h;obtain⟨k',e1,e2,e3⟩:=dX (l:=rest) (c:=c) (by omega);have:k'=k:=by omega
 subst this;rw[e3]at h3;have h6:=List.drop_eq_getElem_cons h4;rw[h6]at h3;have h7:=List.head_eq_of_cons_eq h3;have h8:=List.tail_eq_of_cons_eq h3;refine⟨e2,by grind,?_,h8,?_,by grind⟩
 · rw[List.take_succ_eq_append_getElem (by grind),List.take_succ_eq_append_getElem h4,List.getElem_set_self,List.take_set_of_le (Nat.le_refl _),h2,h7]
 grind[Nat.lt_or_ge,aR,List.drop_eq_nil_of_le,absurd,cR]
theorem SplSt.last (h:SplSt l c i rest a)(hk:dH rest c<0):i+1=(aR c l).length:=by
 obtain⟨h1,h2,h3,h4,h5⟩:=h;rw[mP hk]at h3;have:=congrArg List.length h3;grind
theorem SplSt.fin (h:SplSt l c i rest a)(hi:i+1=(aR c l).length):a.set i rest=aR c l:=by
 obtain⟨h1,h2,h3,h4,h5⟩:=h;have h6:(aR c rest).length=1:=by rw[←h3,List.length_drop];omega
 rw[aQ2 h6]at h3;have e1:a.set i rest=(a.set i rest).take (i+1):=(List.take_of_length_le (by grind)).symm;rw[e1,List.take_succ_eq_append_getElem (by grind),List.getElem_set_self,List.take_set_of_le (Nat.le_refl _),h2];grind[List.take_append_drop,aR]
end
def mV (c:UInt8):Bool:=decide (48≤c.toNat)&&decide (c.toNat≤57)
def dC :aG→Nat→Option Nat
 |[],n=>some n
 |c::l,n=>if mV c then dC l (10*n+(c.toNat-48))else none
def gH (s:aG):Bool:=decide (s.length<1)||decide (13<s.length)||(decide (1<s.length)&&s.getD 0 0==48)
def bH (s:aG):Option Int:=if gH s then none else match dC s 0 with|some n=>if 1099511627776<n then none else some (n:Int)|none=>none
def DgSt (s:aG)(i n:Nat):Prop:=i≤s.length∧dC s 0=dC (s.drop i) n∧n<10^i
theorem DgSt.init (s:aG):DgSt s 0 0:=⟨Nat.zero_le _,rfl,by omega⟩
variable {i n:Nat}{s:aG}
theorem DgSt.next (h:DgSt s i n)(hi:i<s.length)(hd:mV s[i]=true):DgSt s (i+1) (10*n+(s[i].toNat-48)):=by
 obtain⟨h1,h2,h3⟩:=h;refine⟨hi,?_,?_⟩
 · rw[h2,List.drop_eq_getElem_cons hi,dC,if_pos hd]
 · simp only[mV,Bool.and_eq_true,decide_eq_true_eq]at hd;grind
theorem DgSt.bad (h:DgSt s i n)(hi:i<s.length)(hd:mV s[i]=false):dC s 0=none:=by
 rw[h.2.1,List.drop_eq_getElem_cons hi,dC,if_neg (by grind)]
theorem DgSt.fin (h:DgSt s i n)(hi:i=s.length):dC s 0=some n:=by
 rw[h.2.1,hi,List.drop_length];rfl
theorem DgSt.lt (h:DgSt s i n)(hs:s.length≤13):n<10000000000000:=by
 have:10^i≤10^13:=Nat.pow_le_pow_right (by omega) (Nat.le_trans h.1 hs);have:=h.2.2;omega
theorem vT (h:gH s=true):bH s=none:=by unfold bH;grind
theorem yT (h:dC s 0=none):bH s=none:=by grind[bH]
theorem bI7 (h:dC s 0=some n)(h1:1099511627776<n):bH s=none:=by simp_all[bH,if_pos]
theorem aV1 {n:Nat}(h0:gH s=false)(h:dC s 0=some n)(h1: ¬1099511627776<n):bH s=some (n:Int):=by simp_all[bH,if_neg]
theorem bI8 (c:UInt8):mV c=(decide ((48:Int)≤(c.toNat:Int))&&decide ((c.toNat:Int)≤57)):=by
 unfold mV;grind
theorem aQ3 {n:Int}(h:bH s=some n):0≤n∧n≤1099511627776:=by grind[bH]
end Go.Pl
namespace Go.Proofs.YtlldglbooaefhaaGreatDoor
open Go Go.Hl Go.Pl
set_option maxRecDepth 10000
set_option maxHeartbeats 16000000
theorem aQ4 (l:List UInt8)(c:UInt8):bW Tryz.prog 134 [.str l,.str [c]] (fun v=>v= .int .i64 (dH l c)):=by
 refine FW Tryz.func134 ?_;refine R0 ?_;refine R0 ?_;refine aC fun K hK=>?_;refine aL ?_;refine aC fun K hK=>Rg ?_;iterate 3 refine S0 ?_
 refine aE 18 rfl (fun h2_18=>?_) (fun h2_18=>?_)
 ·
  have F:=h2_18;iterate 5 refine SF ?_
  refine T2 (hK _ _ _ ?_);clear hK K;refine CT rfl ?_;refine R0 ?_;refine aF (RT Tryz.results134 ?_);exact absurd h2_18 (by decide)
 have F:=h2_18;iterate 5 refine SF ?_
 refine aE 22 rfl (fun h2_22=>?_) (fun h2_22=>?_)
 · simp only[h2_22];refine T2 (hK _ _ _ ?_);clear hK K;refine CT rfl ?_;refine R0 ?_;refine aF (RT Tryz.results134 ?_);have hl:l=[c]:=(eq_of_beq h2_22).symm;subst hl;exact aH [] (.int .i64 0) rfl (by simp[dH])
 simp only[h2_22];refine T2 (hK _ _ _ ?_);clear hK K;refine CF rfl ?_;refine R0 ?_;refine aJ (b:=(1:Int)==1) rfl (fun hb=>?_) (fun hb=>?_)
 ·
  refine aC fun K hK=>Rg ?_;have F:=aI @List.getD_cons_zero.{0} (aI h2_18 h2_22);iterate 3 refine SF ?_
  refine HS rfl rfl fun K' hK'=>T6 ?_;refine C2 (bI6 l c) ?_;rintro u rfl;refine AX (hK' _ _ ?_);clear hK' K';refine SF ?_;refine T2 (hK _ _ _ ?_);clear hK K;refine aF (RT Tryz.results134 ?_);exact aH [] (.int .i64 (dH l c)) rfl rfl
 exact absurd hb (by decide)
end Go.Proofs.YtlldglbooaefhaaGreatDoor
namespace Go.Pl
open Go Go.Hl
def tab (n:Nat)(f:Nat→Bool):List Bool:=(List.range n).map f
theorem lM (n:Nat)(f:Nat→Bool):(tab n f).length=n:=by simp[tab]
variable {i n:Nat}{f:Nat→Bool}
theorem qF (h:i<n):(tab n f)[i]'(by rw[lM];exact h)=f i:=by simp[tab]
theorem bA8 (n:Nat):List.replicate n false=tab n (fun _=>false):=by
 refine List.ext_getElem (by simp[lM]) fun i h1 h2=>?_;grind[qF]
theorem bT2 {b:Bool}:(tab n f).set i b=tab n (fun j=>if j=i then b else f j):=by
 refine List.ext_getElem (by simp[lM]) fun j h1 h2=>?_;rw[lM]at h2;rw[qF h2,List.getElem_set];by_cases e:i=j
 · grind
 · rw[if_neg e,if_neg fun h=>e h.symm,qF h2]
theorem aV2 {g:Nat→Bool}(h: ∀i,i<n→f i=g i):tab n f=tab n g:=by grind[List.ext_getElem,lM,qF]
def bC1 (b:Bool):CV:= .bool b
theorem bT3 (h:i<n):nth ((tab n f).map bC1) i= .bool (f i):=by
 rw[bN (by rw[lM];exact h),qF h];rfl
section
variable (ps:List Pt)(s:aG)
def prt (k:Nat):Pt:=ps.getD k ⟨0,0⟩
theorem cG0 :mD ps s 0 0=true:=by rw[mD.eq_def]
theorem cG1 (i:Nat):mD ps s 0 (i+1)=false:=by rw[mD.eq_def]
theorem cG2 (k:Nat):mD ps s (k+1) 0=((prt ps k).long&&mD ps s k 0):=by rw[mD.eq_def];rfl
theorem oQ (k i:Nat):mD ps s (k+1) (i+1)=if(prt ps k).long then mD ps s k (i+1)||(mD ps s (k+1) i&&(prt ps k).takes (s.getD i 0))else mD ps s k i&&(prt ps k).takes (s.getD i 0):=by
 rw[mD.eq_def];rfl
def nxt (k i j:Nat):Bool:=if j≤i then mD ps s (k+1) j else false
theorem bI9 (k:Nat)(j:Nat):(if j=0 then(mD ps s k 0&&(prt ps k).long)else false)=nxt ps s k 0 j:=by
 unfold nxt;by_cases h:j=0
 · subst h;rw[if_pos rfl,if_pos (Nat.le_refl _),cG2,Bool.and_comm]
 · rw[if_neg h,if_neg (by omega)]
theorem bJ0 (k i:Nat)(j:Nat):(if j=i+1 then mD ps s (k+1) (i+1)else nxt ps s k i j)=nxt ps s k (i+1) j:=by
 unfold nxt;grind
theorem bT4 (k:Nat):tab (s.length+1) (nxt ps s k s.length)=tab (s.length+1) (mD ps s (k+1)):=
 aV2 fun i hi=>by unfold nxt;grind
theorem bJ1 :tab (s.length+1) (fun j=>if j=0 then true else false)=tab (s.length+1) (mD ps s 0):=
 aV2 fun i _=>by
  cases i with
  |zero=>rw[cG0];rfl
  |succ i=>rw[cG1];rfl
end
end Go.Pl
namespace Go.Proofs.YtlldglbooaefhaaGreatDoor
open Go Go.Hl Go.Pl
set_option maxRecDepth 10000
set_option maxHeartbeats 16000000
theorem bT5 (c d:UInt8):((c.toNat:Int)==(d.toNat:Int))=(c==d):=by
 by_cases h:c=d
 · simp[h]
 have: ¬(c.toNat:Int)=(d.toNat:Int):=fun e=>h (UInt8.toNat_inj.1 (by omega));rw[beq_false_of_ne this,beq_false_of_ne h]
theorem cJ3 (c d:UInt8):((c.toNat:Int) !=(d.toNat:Int))=!(c==d):=by
 show(!((c.toNat:Int)==(d.toNat:Int)))=_;rw[bT5]
theorem eX (x:Pt)(hk:x.k≤3):bW Tryz.prog 98 [x.cv] (fun v=>v= .bool x.long):=by
 refine FW Tryz.func98 ?_;have F:=aI @Pt.cells (aI @Pt.isAgg @Pt.getAll);refine RF ?_;refine aC fun K hK=>Rg ?_;have F:=@Pt.get_k;iterate 4 refine SF ?_
 refine aE 5 rfl (fun h1_5=>?_) (fun h1_5=>?_)
 ·
  have F:=aI @Pt.get_k h1_5;iterate 5 refine SF ?_
  refine T2 (hK _ _ _ ?_);clear hK K;refine aF (RT Tryz.results98 ?_);refine aH [] (.bool _) rfl ?_;have hkk:x.k=0∨x.k=1∨x.k=2∨x.k=3:=by omega
  rcases hkk with h|h|h|h<;>simp_all[Pt.long]
 have F:=aI @Pt.get_k h1_5;iterate 5 refine SF ?_
 refine T2 (hK _ _ _ ?_);clear hK K;refine aF (RT Tryz.results98 ?_);refine aH [] (.bool _) rfl ?_;have hkk:x.k=0∨x.k=1∨x.k=2∨x.k=3:=by omega
 rcases hkk with h|h|h|h<;>simp_all[Pt.long]
theorem bT6 (c:UInt8):bW Tryz.prog 115 [u8 c] (fun v=>v= .bool true):=by
 refine FW Tryz.func115 ?_;refine R0 ?_;refine R0 ?_;refine aF (RT Tryz.results115 ?_);exact aH [] (.bool true) rfl rfl
theorem aV3 (c:UInt8):bW Tryz.prog 116 [u8 c] (fun v=>v= .bool (!(c==47))):=by
 refine FW Tryz.func116 ?_;refine R0 ?_;refine R0 ?_;refine aF (RT Tryz.results116 ?_);exact aH [] (.bool (!(c==47))) (by rw[←cJ3 c 47];rfl) rfl
end Go.Proofs.YtlldglbooaefhaaGreatDoor
namespace Go.Pl
open Go Go.Hl
def aft (l:List Nd)(i:Nat):Nat:=l.length-((skip 1 (l.drop i)).getD []).length
variable {i:Nat}{l:List Nd}
theorem aQ5 {j:Nat}(hj:j≤l.length)(h:skip 1 (l.drop i)=some (l.drop j)):aft l i=j:=by grind[aft,List.length_drop]
theorem iH (h:IsTree l)(hi:i<l.length):i<aft l i∧aft l i≤l.length∧skip 1 (l.drop i)=some (l.drop (aft l i)):=by grind[bG6,aQ5]
def AftSt (l:List Nd)(i m p:Nat):Prop:=p≤l.length∧skip m (l.drop p)=skip 1 (l.drop i)
variable {p:Nat}
theorem AftSt.lt (ht:IsTree l){m:Nat}(hi:i<l.length)(h:AftSt l i m p)(hm:0<m):p<l.length:=by
 rcases Nat.lt_or_ge p l.length with h1|h1
 · grind
 · have h2:=h.2;rw[List.drop_eq_nil_of_le h1,(iH ht hi).2.2]at h2;obtain⟨k,rfl⟩: ∃k,m=k+1:=⟨m-1,by omega⟩;cases h2
theorem AftSt.next {m:Nat}(h:AftSt l i (m+1) p)(hp:p<l.length):AftSt l i (m+l[p].c.toNat) (p+1):=by
 refine⟨hp,?_⟩;rw[←h.2,List.drop_eq_getElem_cons hp];rfl
theorem AftSt.fin (h:AftSt l i 0 p):p=aft l i:=by
 have h2:=h.2;rw[cF]at h2;exact(aQ5 h.1 h2.symm).symm
theorem bA9 {m q:Nat}(h:skip (m+1) (l.drop p)=skip 1 (l.drop i))(hq:skip 1 (l.drop p)=some (l.drop q)):skip m (l.drop q)=skip 1 (l.drop i):=by
 rw[←h,Nat.add_comm m 1,eD,hq];rfl
def gA (l:List Nd):Nat→Nat→List Nat
 |0,_=>[]
 |k+1,at_=>at_::gA l k (aft l at_)
def bJ2 (l:List Nd)(i:Nat):List Nat:=gA l (l.getD i nd0).c.toNat (i+1)
def lN (l:List Nd)(i:Int):List Nat:=if cT l=true∧0≤i∧i<l.length then bJ2 l i.toNat else []
theorem nZ (l:List Nd): ∀(k p:Nat),(gA l k p).length=k
 |0,_=>rfl
 |k+1,p=>by simp[gA,nZ l k]
def cK (l:List Nd):Nat→Nat→Nat
 |0,p=>p
 |k+1,p=>cK l k (aft l p)
theorem cL (l:List Nd): ∀(k p:Nat),cK l (k+1) p=aft l (cK l k p)
 |0,p=>rfl
 |k+1,p=>cL l k (aft l p)
theorem pA (l:List Nd): ∀(k p:Nat),gA l (k+1) p=gA l k p++[cK l k p]
 |0,p=>rfl
 |k+1,p=>by rw[gA,pA l k];rfl
theorem fW {l:List Nd}(ht:IsTree l){i:Nat}(hi:i<l.length): ∀k,k≤l[i].c.toNat→cK l k (i+1)≤l.length∧skip (l[i].c.toNat-k) (l.drop (cK l k (i+1)))=some (l.drop (aft l i))∧i+1≤cK l k (i+1)
 |0,_=>by
  refine⟨hi,?_,Nat.le_refl _⟩;have:=(iH ht hi).2.2;rw[List.drop_eq_getElem_cons hi]at this;show skip (l[i].c.toNat-0) _=_;rw[←this,Nat.sub_zero];show _=skip (0+l[i].c.toNat) _;rw[Nat.zero_add];rfl
 |k+1,hk=>by
  obtain⟨h1,h2,h3⟩:=fW ht hi k (by omega);have hlt:cK l k (i+1)<l.length:=by
   rcases Nat.lt_or_ge (cK l k (i+1)) l.length with h|h
   · exact h
   · rw[List.drop_eq_nil_of_le h]at h2;obtain⟨q,hq⟩: ∃q,l[i].c.toNat-k=q+1:=⟨l[i].c.toNat-k-1,by omega⟩;rw[hq]at h2;cases h2
  obtain⟨a1,a2,a3⟩:=iH ht hlt;rw[cL];refine⟨a2,?_,by omega⟩;obtain⟨q,hq⟩: ∃q,l[i].c.toNat-k=1+q:=⟨l[i].c.toNat-k-1,by omega⟩;rw[hq,eD,a3]at h2;grind
variable {k:Nat}
theorem gZ (ht:IsTree l)(hi:i<l.length)(hk:k<l[i].c.toNat):cK l k (i+1)<l.length:=by
 obtain⟨h1,h2,_⟩:=fW ht hi k (by omega);rcases Nat.lt_or_ge (cK l k (i+1)) l.length with h|h
 · exact h
 · rw[List.drop_eq_nil_of_le h]at h2;obtain⟨q,hq⟩: ∃q,l[i].c.toNat-k=q+1:=⟨l[i].c.toNat-k-1,by omega⟩;rw[hq]at h2;cases h2
def eF :Nat→List Nd→List Nat
 |_,[]=>[]
 |o,n::l=>if n.k=1 then o::eF (o+1) l else eF (o+1) l
def gI (l:List Nd):List Nat:=if cT l then eF 0 l else []
theorem gQ : ∀(l:List Nd) (o:Nat),(eF o l).length=lv l
 |[],_=>rfl
 |n::l,o=>by
  rw[eF,lv];split
  · simp[gQ l];omega
  · simp[gQ l]
theorem qG : ∀(a b:List Nd) (o:Nat),eF o (a++b)=eF o a++eF (o+a.length) b
 |[],b,o=>by simp[eF]
 |n::a,b,o=>by
  simp only[List.cons_append,eF,qG a b,List.length_cons];grind
theorem vU (h:i<l.length):eF 0 (l.take (i+1))=eF 0 (l.take i)++(if l[i].k=1 then [i]else []):=by
 rw[List.take_succ_eq_append_getElem h,qG];have:(l.take i).length=i:=by simp;omega
 simp_all[Nat.zero_add,eF]
theorem aJ1 (h:IsTree l):1≤lv l:=by
 have key: ∀(l:List Nd) (m:Nat),skip (m+1) l=some []→(∀n∈l,bL n=true)→1≤lv l:=by
  intro l;induction l with
  |nil=>intro m h;cases h
  |cons n l ih=>
   intro m h hn;have h':skip (m+n.c.toNat) l=some []:=h;obtain⟨c1,c2,c3,c4⟩:=cI (hn n List.mem_cons_self);rw[lv];split
   · omega
   · rename_i hk;have:=c4 hk;obtain⟨q,hq⟩: ∃q,m+n.c.toNat=q+1:=⟨m+n.c.toNat-1,by omega⟩;grind
 exact key l 0 h.skip h.node
def cnt (l:List Bool):Nat:=(l.filter id).length
theorem bJ3 (l:List Bool):cnt l≤l.length:=List.length_filter_le _ _
theorem aJ2 (l:List Bool):cnt l.reverse=cnt l:=by simp[cnt,List.filter_reverse]
def iA (n:Nd)(l:List Bool):Bool:=if n.k=2 then cnt l==l.length else if n.k=3 then decide (1≤cnt l)else decide (n.n≤cnt l)
def evS (T:Nat)(tr:List Bool):List Nd→List Bool
 |[]=>[]
 |n::l=>if n.k=1 then tr.getD (T-lv (n::l)) false::evS T tr l else iA n ((evS T tr l).take n.c.toNat)::(evS T tr l).drop n.c.toNat
theorem aJ3 {T:Nat}{tr:List Bool}: ∀(l:List Nd) (m:Nat) (r:List Nd),(∀n∈l,bL n=true)→skip m l=some r→evS T tr r=(evS T tr l).drop m
 |l,0,r,_,h=>by grind[cF]
 |[],m+1,r,_,h=>by cases h
 |n::l,m+1,r,hn,h=>by
  have h':skip (m+n.c.toNat) l=some r:=h;rw[aJ3 l _ r (fun x hx=>hn x (List.mem_cons_of_mem _ hx)) h',evS];obtain⟨c1,c2,c3,c4⟩:=cI (hn n List.mem_cons_self);grind[List.drop_drop,Nat.add_comm]
theorem aC0 {T:Nat}{tr:List Bool}: ∀(l:List Nd) (m:Nat),(∀n∈l,bL n=true)→skip m l=some []→(evS T tr l).length=m
 |[],0,_,_=>rfl
 |[],m+1,_,h=>by cases h
 |n::l,0,_,h=>by grind[cF]
 |n::l,m+1,hn,h=>by
  have h':skip (m+n.c.toNat) l=some []:=h;have ih:=aC0 (T:=T) (tr:=tr) l _ (fun x hx=>hn x (List.mem_cons_of_mem _ hx)) h';obtain⟨c1,c2,c3,c4⟩:=cI (hn n List.mem_cons_self);grind[evS,List.length_cons,List.length_drop]
def oR (l:List Nd)(tr:List Bool):Bool:=cT l&&(evS (lv l) tr l).headD false
def mW (l:List Nd)(tr:List Bool)(i:Nat):Bool:=(evS (lv l) tr (l.drop i)).headD false
theorem qH (l:List Nd)(i:Nat):lv (l.take i)+lv (l.drop i)=lv l:=by rw[←rK,List.take_append_drop]
variable {tr:List Bool}
theorem vV (hi:i<l.length)(hk:l[i].k=1):mW l tr i=tr.getD (lv (l.take i)) false:=by
 have h1:=qH l i;unfold mW;rw[List.drop_eq_getElem_cons hi]at h1⊢;rw[evS,if_pos hk];grind
theorem bB0 (ht:IsTree l)(hi:i<l.length)(hk:k<l[i].c.toNat):
  mW l tr (cK l k (i+1))=(evS (lv l) tr (l.drop (i+1))).getD k false:=by
 have key: ∀k,k≤l[i].c.toNat→skip k (l.drop (i+1))=some (l.drop (cK l k (i+1))):=by
  intro k;induction k with
  |zero=>intro _;rw[cF];rfl
  |succ k ih=>
   grind[eD,cL,iH,gZ]
 unfold mW;rw[aJ3 _ _ _ (fun n hn=>ht.node n (List.mem_of_mem_drop hn)) (key k (by omega))];simp_all
theorem aJ4 (hi:i<l.length)(hk:l[i].k≠1):mW l tr i=iA l[i] ((evS (lv l) tr (l.drop (i+1))).take l[i].c.toNat):=by
 unfold mW;rw[List.drop_eq_getElem_cons hi,evS,if_neg hk];rfl
theorem aJ5 (ht:IsTree l)(hi:i<l.length):l[i].c.toNat≤(evS (lv l) tr (l.drop (i+1))).length:=by
 obtain⟨k,hk⟩:=rL l 1 ht.skip ht.node i hi;rw[List.drop_eq_getElem_cons hi]at hk;have hk':skip (k+l[i].c.toNat) (l.drop (i+1))=some []:=hk;rw[aC0 _ _ (fun n hn=>ht.node n (List.mem_of_mem_drop hn)) hk'];omega
theorem tD (c:UInt8): ∀m:aG,aR c (m++[c])=aR c m++[[]]
 |[]=>by simp[aR]
 |b::m=>by
  have ih:=tD c m;simp only[List.cons_append];rw[aR,aR];by_cases h:b=c
  · grind
  · rw[if_neg h,if_neg h,ih];grind[aR,absurd,cR]
theorem mX {c:UInt8}: ∀{l:aG},l≠[]→(aR c l).getLast (cR c l)=[]→ ∃m,l=m++[c]
 |[],h,_=>absurd rfl h
 |b::l,_,hl=>by
  by_cases h:b=c
  ·
   subst h;have hs:aR b (b::l)=[]::aR b l:=by rw[aR,if_pos rfl]
   cases l with
   |nil=>simp_all
   |cons d l=>
    have:(aR b (d::l)).getLast (cR b _)=[]:=by
     simp only[hs]at hl;rw[List.getLast_cons (cR b _)]at hl;exact hl
    obtain⟨m,hm⟩:=mX (l:=d::l) (by simp) this;grind
  ·
   cases hs:aR c l with
   |nil=>exact absurd hs (cR c l)
   |cons x xs=>
    have hs2:aR c (b::l)=(b::x)::xs:=by rw[aR,if_neg h,hs]
    simp only[hs2]at hl;cases xs with
    |nil=>grind
    |cons y ys=>
     have hne:l≠[]:=by rintro rfl;simp[aR]at hs
     have:(aR c l).getLast (cR c l)=[]:=by
      simp only[hs];rw[List.getLast_cons (by simp)]at hl⊢;exact hl
     obtain⟨m,hm⟩:=mX hne this;grind
def lS (c:UInt8):List aG→aG
 |[]=>[]
 |w::l=>w++l.flatMap fun v=>c::v
theorem mY (c:UInt8): ∀l:aG,lS c (aR c l)=l
 |[]=>rfl
 |b::l=>by
  have ih:=mY c l;rw[aR];cases hs:aR c l with
  |nil=>exact absurd hs (cR c l)
  |cons x xs=>
   grind[lS]
theorem tE {c:UInt8}: ∀{w:aG},(∀b∈w,b≠c)→aR c w=[w]
 |[],_=>rfl
 |b::w,h=>by
  rw[aR,if_neg (h b List.mem_cons_self),tE fun x hx=>h x (List.mem_cons_of_mem _ hx)]
theorem vW {c:UInt8}{r:aG}: ∀{w:aG},(∀b∈w,b≠c)→aR c (w++c::r)=w::aR c r
 |[],_=>by simp only[List.nil_append];rw[aR,if_pos rfl]
 |b::w,h=>by
  simp only[List.cons_append];rw[aR,if_neg (h b List.mem_cons_self),vW fun x hx=>h x (List.mem_cons_of_mem _ hx)]
theorem mZ {c:UInt8}: ∀{l:List aG},l≠[]→(∀w∈l,∀b∈w,b≠c)→aR c (lS c l)=l
 |[],h,_=>absurd rfl h
 |[w],_,h=>by grind[lS,tE,List.mem_cons_self]
 |w::v::l,_,h=>by
  have ih:=mZ (c:=c) (l:=v::l) (by simp) fun x hx=>h x (List.mem_cons_of_mem _ hx);grind[lS,vW,List.mem_cons_self]
theorem aQ6 (c:UInt8)(m:aG):((aR c m).flatMap fun r=>r++[c])=m++[c]:=by
 have h:=mY c m;cases hs:aR c m with
 |nil=>exact absurd hs (cR c m)
 |cons x xs=>
  rw[hs]at h;simp only[lS]at h;rw[←h];have key: ∀(x:aG) (xs:List aG),(List.flatMap (fun r=>r++[c]) (x::xs))=(x++xs.flatMap fun v=>c::v)++[c]:=by
   intro x xs;induction xs generalizing x with
   |nil=>simp
   |cons y ys ih=>
    grind
  grind
set_option maxRecDepth 20000 in
theorem aJ6 {c:UInt8}(h:valH c<16):mO (valH c)=c:=by
 have key: ∀n:Fin 256,valH (UInt8.ofNat n.1)<16→mO (valH (UInt8.ofNat n.1))=UInt8.ofNat n.1:=by decide
 have:=key ⟨c.toNat,c.toNat_lt⟩;simp_all
set_option maxRecDepth 20000 in
theorem yU {n:Nat}(h:n<16):valH (mO n)=n:=by
 have key: ∀n:Fin 16,valH (mO n.1)=n.1:=by decide
 exact key ⟨n,h⟩
theorem bJ4 {x y:UInt8}(h:okH x y=true):kQ (byteH x y)=[37,x,y]:=by
 simp only[okH,Bool.and_eq_true,decide_eq_true_eq,Bool.not_eq_true']at h;obtain⟨⟨h1,h2⟩,h3⟩:=h;unfold kQ;rw[h3,yI h1 h2];have e1:(16*valH x+valH y)/16=valH x:=by omega
 have e2:(16*valH x+valH y)%16=valH y:=by omega
 simp only[Bool.false_eq_true,if_false,e1,e2,aJ6 h1,aJ6 h2]
variable {c:UInt8}
theorem vX (h:cQ c=true):kQ c=[c]:=by unfold kQ;grind
theorem aC1 : ∀(n:Nat) {s w:aG},s.length≤n→unB s=some w→cJ w=s
 |0,s,w,hn,h=>by simp_all[List.eq_nil_of_length_eq_zero,unB,Option.some.injEq]
 |n+1,[],w,_,h=>by simp_all[unB,Option.some.injEq]
 |n+1,c::l,w,hn,h=>by
  simp only[List.length_cons]at hn;by_cases hp:cQ c=true
  · rw[nW hp,Option.map_eq_some_iff]at h;obtain⟨w',h',rfl⟩:=h;have ih:=aC1 n (by omega) h';grind[cJ,vX]
  ·
   have hp:cQ c=false:=by simpa using hp
   by_cases hc:c=37
   ·
    subst hc
    match l,h with
    |[],h=>grind[tV]
    |[x],h=>grind[tV]
    |x::y::l',h=>
     by_cases ho:okH x y=true
     · rw[aB3 ho,Option.map_eq_some_iff]at h;obtain⟨w',h',rfl⟩:=h;have ih:=aC1 n (by grind) h';grind[cJ,bJ4]
     grind[sY]
   grind[tV]
variable {s:aG}
theorem bT7 {w:aG}(h:unW s=some w):jN w=s:=by
 unfold unW at h;split at h
 · rename_i hs;cases h;rw[hs];rfl
 ·
  split at h
  · cases h
  · rename_i h1 h2;have:=aC1 _ (Nat.le_refl _) h;unfold jN;rw[if_neg (cB0 h2 h),this]
theorem yV : ∀w:aG,unB (cJ w)=some w
 |[]=>rfl
 |c::w=>by
  have ih:=yV w;have e:cJ (c::w)=kQ c++cJ w:=by simp[cJ]
  rw[e];by_cases hp:cQ c=true
  · grind[vX,nW]
  ·
   have hp:cQ c=false:=by simpa using hp
   have hlt:=c.toNat_lt;have h1:valH (mO (c.toNat/16))=c.toNat/16:=yU (by omega);have h2:valH (mO (c.toNat%16))=c.toNat%16:=yU (by omega);have hb:byteH (mO (c.toNat/16)) (mO (c.toNat%16))=c:=by
    unfold byteH;rw[h1,h2,Nat.div_add_mod];exact UInt8.ofNat_toNat
   have ho:okH (mO (c.toNat/16)) (mO (c.toNat%16))=true:=by
    simp only[okH,hb,hp,h1,h2,Bool.and_eq_true,decide_eq_true_eq,Bool.not_false,and_true];omega
   grind[kQ,mO,aB3]
variable {b:UInt8}
theorem yW (h:b∈kQ c):b≠10∧b≠32∧b≠126:=by
 unfold kQ at h;split at h
 · rename_i hp;simp only[List.mem_singleton]at h;subst h;refine⟨?_,?_,?_⟩<;>(rintro rfl;revert hp;decide)
 ·
  have key: ∀n:Nat,mO n≠10∧mO n≠32∧mO n≠126:=by
   intro n;unfold mO;rcases Nat.lt_or_ge n 16 with hn|hn
   ·
    have: ∀n:Fin 16,([48,49,50,51,52,53,54,55,56,57,65,66,67,68,69,70]:List UInt8).getD n.1 0≠10∧([48,49,50,51,52,53,54,55,56,57,65,66,67,68,69,70]:List UInt8).getD n.1 0≠32∧([48,49,50,51,52,53,54,55,56,57,65,66,67,68,69,70]:List UInt8).getD n.1 0≠126:=by decide
    exact this ⟨n,hn⟩
   · simp_all
  grind
theorem rT {w:aG}(h:b∈jN w):b≠10∧b≠32:=by
 unfold jN at h;split at h
 · grind
 · obtain⟨c,_,hc⟩:=List.mem_flatMap.1 h;grind[yW]
theorem bJ5 (w:aG):unW (jN w)=some w:=by
 unfold jN;split
 · rename_i h;subst h;rfl
 ·
  rename_i h;have hne:cJ w≠[]:=by
   intro he;have:=aH2 w;rw[he]at this;exact h (List.eq_nil_of_length_eq_zero (by grind))
  have h126:cJ w≠[126]:=by
   intro he;have hm:(126:UInt8)∈cJ w:=by rw[he];simp
   obtain⟨c,_,hc⟩:=List.mem_flatMap.1 hm;exact(yW hc).2.2 rfl
  simp_all[unW,if_neg,yV]
theorem rU {α β:Type}{f:α→Option β}: ∀{l:List α} {m:List β},l.mapM f=some m→(∀{g:β→α},(∀x y,f x=some y→g y=x)→m.map g=l)∧m.length=l.length
 |[],m,h=>by grind
 |a::l,m,h=>by
  rw[List.mapM_cons]at h;cases ha:f a with
  |none=>grind
  |some b=>
   rw[ha]at h;cases hl:l.mapM f with
   |none=>grind
   |some m'=>
    rw[hl]at h;cases h;obtain⟨h1,h2⟩:=rU hl;grind
theorem yX (l:List aG):gY l=lS 32 (l.map jN):=by
 cases l with
 |nil=>rfl
 |cons w l=>simp[gY,lS,List.flatMap_map]
theorem bT8 {r:aG}{ws:List aG}(h:unL r=some ws):gY ws=r:=by
 have:=(rU h).1 (g:=jN) fun x y h=>bT7 h;rw[yX,this,mY]
theorem yY : ∀l:List aG,(l.map jN).mapM unW=some l
 |[]=>rfl
 |w::l=>by rw[List.map_cons,List.mapM_cons,bJ5,yY l];rfl
theorem bJ6 {l:List aG}(h:l≠[]):unL (gY l)=some l:=by
 unfold unL;rw[yX,mZ (by simp_all) (by
  intro w hw b hb;obtain⟨v,_,rfl⟩:=List.mem_map.1 hw;exact(rT hb).2),yY]
theorem bB1 {l:List aG}(h:b∈gY l):b≠10:=by
 cases l with
 |nil=>simp at h
 |cons w l=>
  simp only[gY,List.mem_append,List.mem_flatMap]at h;rcases h with h|⟨v,_,h⟩
  · exact(rT h).1
  · rcases List.mem_cons.1 h with rfl|h;all_goals grind[rT]
variable {ls:List (List aG)}
theorem bB2 (h:ls≠[]):gO ls=lS 10 (ls.map gY)++[10]:=by
 cases ls with
 |nil=>grind
 |cons l ls=>
  have key: ∀(l:List aG) (ls:List (List aG)),gO (l::ls)=lS 10 ((l::ls).map gY)++[10]:=by
   intro l ls;induction ls generalizing l with
   |nil=>simp[gO,lS,aH3]
   |cons k ls ih=>
    grind[gO,aH3,lS]
  grind
theorem yZ (m:aG):fV (m++[10])=(aR 10 m).mapM unR:=by simp_all[tD,fV,if_neg,if_pos,List.dropLast_concat]
theorem bB3 (h: ∀l∈ls,okL l=true):fV (gO ls)=some ls:=by
 by_cases hne:ls=[]
 · subst hne;simp[fV]
 ·
  rw[bB2 hne,yZ,mZ (by simpa using hne) (by
   intro w hw b hb;obtain⟨l,_,rfl⟩:=List.mem_map.1 hw;exact bB1 hb)]
  clear hne;induction ls with
  |nil=>rfl
  |cons l ls ih=>
   have hl:=h l List.mem_cons_self;have hr:unR (gY l)=some l:=by
    unfold unR;rw[bJ6 ((nV l).1 hl).1];simp only[hl,if_true]
   rw[List.map_cons,List.mapM_cons,hr,ih fun x hx=>h x (List.mem_cons_of_mem _ hx)];rfl
variable {rs:List aG}
theorem bJ7 (h:rs.mapM unL=some ls):rs.mapM unR=if ls.all okL then some ls else none:=by
 induction rs generalizing ls with
 |nil=>grind
 |cons r rs ih=>
  rw[List.mapM_cons]at h;cases hr:unL r with
  |none=>grind
  |some l=>
   rw[hr]at h;cases hl:rs.mapM unL with
   |none=>grind
   |some m=>
    rw[hl]at h;cases h;rw[List.mapM_cons,ih hl];unfold unR;rw[hr];simp only[List.all_cons];by_cases h1:okL l=true
    · grind
    grind
theorem xG (h:rs.mapM unL=none):rs.mapM unR=none:=by
 induction rs with
 |nil=>grind
 |cons r rs ih=>
  rw[List.mapM_cons]at h⊢;cases hr:unL r with
  |none=>unfold unR;grind
  |some l=>
   rw[hr]at h;have:rs.mapM unL=none:=by
    cases hl:rs.mapM unL with
    |none=>rfl
    |some m=>rw[hl]at h;cases h
   rw[ih this];cases unR r<;>rfl
theorem bB4 {m:aG}(h:(aR 10 m).mapM unL=some ls):gO ls=m++[10]:=by
 have h1:=(rU h).1 (g:=gY) fun x y h=>bT8 h;have h2:=aQ6 10 m;rw[←h1]at h2;rw[←h2];simp only[gO,List.flatMap_map];rfl
@[simp] theorem cE0 (l:List W32)(i:Nat)(x:W32):CV.agg ((l.map w32).set i (w32 x))=ws (l.set i x):=by rw[←List.map_set];rfl
@[simp] theorem cE1 (l:List UInt8)(i:Nat)(x:UInt8):CV.agg ((l.map u8).set i (u8 x))=us (l.set i x):=by rw[←List.map_set];rfl
@[simp] theorem cI4 (b:List UInt8):wA b 0=wz 64:=rfl
@[simp] theorem cI5 (w:List W32):wB w 0=w:=rfl
def cJ4 (s r:St)(j:Nat):List W32:=(s.l.zipWith (fun x y=>x+y) r.l).take j++s.l.drop j
@[simp] theorem cE2 (s r:St):cJ4 s r 0=s.l:=rfl
section
variable {b:List UInt8}{j:Nat}(h0:64*j≤b.length)(h1:b.length<64*j+64)
include h0 h1
end
section
variable {b:List UInt8}{j:Nat}(h0:64*j≤b.length)(h1:b.length<64*j+64)
include h0 h1
end
@[simp] theorem cI6 (l:List UInt8):CV.agg (l.map u8)=us l:=rfl
def ob8 (s:St)(i:Nat):UInt8:=UInt8.ofNat ((gw s.l (i/4))>>>(24-8*(i%4))).toNat
def cJ5 (s:St)(n:Nat):List UInt8:=itN (fun i l=>l.set i (ob8 s i)) n (uz 32)
@[simp] theorem cE3 (s:St):cJ5 s 0=uz 32:=rfl
def cJ6 (h:xD):aG:=cA8 h.1
def cJ7 (d:Dig):aG:=[115,104,97,50,53,54,58]++cA8 d.1
def numW (n:Int):aG:=Lib.itoa n
theorem aJ7 {n:Int}(h:0≤n):numW n=Lib.decDigits n.natAbs:=by unfold numW Lib.itoa;rw[if_neg (by omega)];congr 1;omega
inductive Av where
 |i (n:Int)
 |l (n:Int)
 |h (x:xD)
 |d (x:Dig)
 |s (w:aG)
def Av.w :Av→aG
 | .i n=>numW n
 | .l n=>numW n
 | .h x=>cJ6 x
 | .d x=>cJ7 x
 | .s w=>w
def Av.ok :Av→Prop
 | .i n=> -9223372036854775808≤n∧n≤9223372036854775807
 | .l n=> -9223372036854775808≤n∧n≤9223372036854775807
 |_=>True
def bT9 (c:UInt8):Nat:=if 48≤c.toNat∧c.toNat≤57 then c.toNat-48 else if 97≤c.toNat∧c.toNat≤102 then c.toNat-87 else 16
def hX (s:aG)(i:Nat):UInt8:=s.getD (2*i) 0
def hY (s:aG)(i:Nat):UInt8:=s.getD (2*i+1) 0
def hB (s:aG)(i:Nat):UInt8:=UInt8.ofNat (16*bT9 (hX s i)+bT9 (hY s i))
def hOk (s:aG)(i:Nat):Bool:=decide (bT9 (hX s i)<16)&&decide (bT9 (hY s i)<16)
def nA (s:aG)(n:Nat):Option (List UInt8):=if s.length=2*n∧(List.range n).all (hOk s)=true then some ((List.range n).map (hB s))else none
def UhSt (s:aG)(n i:Nat)(l:List UInt8):Prop:=l.length=n∧i≤n∧l.take i=(List.range i).map (hB s)∧ ∀j,j<i→hOk s j=true
variable {n:Nat}
theorem UhSt.init (s:aG){l:List UInt8}(h:l.length=n):UhSt s n 0 l:=⟨h,Nat.zero_le _,by simp,fun j hj=>by omega⟩
theorem UhSt.next {l:List UInt8}(h:UhSt s n i l)(hi:i<n)(hk:hOk s i=true):UhSt s n (i+1) (l.set i (hB s i)):=by
 obtain⟨h1,h2,h3,h4⟩:=h;refine⟨by simpa using h1,hi,?_,fun j hj=>?_⟩
 · rw[List.take_succ_eq_append_getElem (by rw[List.length_set];omega),List.getElem_set_self,List.take_set_of_le (Nat.le_refl _),h3,List.range_succ,List.map_append];rfl
 ·
  rcases Nat.lt_or_ge j i with h'|h'
  · exact h4 j h'
  ·
   have:j=i:=by omega
   rw[this];exact hk
theorem UhSt.fin {l:List UInt8}(h:UhSt s n n l)(hs:s.length=2*n):nA s n=some l:=by
 obtain⟨h1,h2,h3,h4⟩:=h;unfold nA;rw[if_pos ⟨hs,by rw[List.all_eq_true];intro j hj;exact h4 j (List.mem_range.1 hj)⟩,←h3,List.take_of_length_le (by omega)]
theorem UhSt.bad {l:List UInt8}(_:UhSt s n i l)(hi:i<n)(hk:hOk s i=false):nA s n=none:=by
 unfold nA;rw[if_neg];rintro⟨_,h⟩;have:=List.all_eq_true.1 h i (List.mem_range.2 hi);rw[hk]at this;cases this
theorem oS {l:List UInt8}(h:nA s n=some l):l.length=n:=by
 unfold nA at h;split at h
 · cases h;simp
 · cases h
def cG3 (s p:aG):Bool:=decide (p.length≤s.length)&&(s.take p.length==p)
def cG4 (s:aG):Option xD:=match h:nA s 16 with|some l=>some ⟨l,oS h⟩|none=>none
def cJ8 :aG:=[115,104,97,50,53,54,58]
def cJ9 (s:aG):Option Dig:=if cG3 s cJ8 then match h:nA (s.drop 7) 32 with|some l=>some ⟨l,oS h⟩|none=>none else none
def wd (l:List aG)(i:Nat):aG:=l.getD i []
theorem vY {l:List aG}(h:i<l.length):nth (l.map CV.str) i= .str (wd l i):=by
 rw[bN h,wd,List.getD_eq_getElem?_getD,List.getElem?_eq_getElem h];rfl
def bJ8 (l:List aG)(x:Rt):Option Rt:=
 if l.length=3 then match bH (wd l 2)with|some n=>some {x with q:=x.q++[⟨wd l 1,n⟩]}|none=>none else none
def cG5 (l:List aG)(x:Rt):Option Rt:=
 if l.length<6 then none else match bH (wd l 1),cG4 (wd l 2),bH (wd l 4),bH (wd l 5)with
  |some h,some r,some a,some b=>some {x with k:=x.k++[⟨⟨h,r⟩,wd l 3,l.drop 6,a,b⟩]}
  |_,_,_,_=>none
def cG6 (l:List aG)(x:Rt):Option Rt:=
 if l.length=3 then match cJ9 (wd l 1),bH (wd l 2)with|some d,some t=>some {x with x:=x.x++[⟨d,t⟩]}|_,_=>none else none
end Go.Pl
namespace Go.Hl
open Go Go.RowKit Go.Sort Go.Proofs
end Go.Hl
namespace Go.Pl
open Go Go.Hl
def rMid (r:Rt):Prop:=(r.q.length≤12∧ ∀q∈r.q,q.r.length≤300)∧(r.k.length≤32∧ ∀k∈r.k,k.o.length≤300∧k.rs.length≤30∧ ∀w∈k.rs,w.length≤300)∧r.x.length≤65
theorem rMid.sz {r:Rt}(h:rMid r):rSz r:=by
 obtain⟨⟨h1,h2⟩,⟨h3,h4⟩,h5⟩:=h;refine⟨⟨by omega,fun q hq=>by have:=h2 q hq;omega⟩,⟨by omega,fun k hk=>?_⟩,by omega⟩;obtain⟨k1,k2,k3⟩:=h4 k hk;exact⟨by omega,by omega,fun w hw=>by have:=k3 w hw;omega⟩
def aQ7 (j:Nat):aG:=([[113,117,111,116,97],[107,101,121],[114,101,118,111,107,101,100]]:List aG).getD j []
def bB5 (j:Nat)(l:List aG)(x:Rt):Option Rt:=if j=0 then bJ8 l x else if j=1 then cG5 l x else cG6 l x
def aJ8 (j:Nat):List (List aG)→Rt→Option (List (List aG)×Rt)
 |[],x=>some ([],x)
 |l::ls,x=>if wd l 0=aQ7 j then match bB5 j l x with|some y=>aJ8 j ls y|none=>none else some (l::ls,x)
def rV :Nat→Nat→List (List aG)→Rt→Option (List (List aG)×Rt)
 |0,_,ls,x=>some (ls,x)
 |n+1,j,ls,x=>match aJ8 j ls x with|some (ls',y)=>rV n (j+1) ls' y|none=>none
section
variable {l0:List aG}{ls:List (List aG)}{x:Rt}
end
variable {x:Rt}{ls:List (List aG)}{j:Nat}
theorem bJ9 {l:List aG}{y:Rt}(h:wd l 0=aQ7 j)(hy:bB5 j l x=some y):aJ8 j (l::ls) x=aJ8 j ls y:=by
 rw[aJ8,if_pos h,hy]
theorem bB6 {l:List aG}(h:wd l 0≠aQ7 j):aJ8 j (l::ls) x=some (l::ls,x):=by
 rw[aJ8,if_neg h]
variable {n:Nat}
theorem bK0 {l:List aG}{y:Rt}(h:wd l 0=aQ7 j)(hy:bB5 j l x=some y):rV (n+1) j (l::ls) x=rV (n+1) j ls y:=by grind[rV,bJ9]
theorem bB7 {l:List aG}(h:wd l 0≠aQ7 j):rV (n+1) j (l::ls) x=rV n (j+1) (l::ls) x:=by
 simp only[rV,bB6 h]
theorem bK1 :rV (n+1) j [] x=rV n (j+1) [] x:=by
 simp only[rV,aJ8]
def wOk (l:List aG):Prop:=l≠[]∧l.length≤120∧ ∀w∈l,w.length≤32768
variable {l:List aG}
theorem wOk.wd (h:wOk l)(i:Nat):(wd l i).length≤32768:=by
 unfold Pl.wd;rw[List.getD_eq_getElem?_getD];rcases Nat.lt_or_ge i l.length with h'|h'
 · rw[List.getElem?_eq_getElem h'];exact h.2.2 _ (List.getElem_mem h')
 grind
def rRead (m:Nat)(x:Rt):Prop:=x.q.length+x.k.length+x.x.length≤m∧(∀q∈x.q,q.r.length≤32768)∧ ∀k∈x.k,k.o.length≤32768∧k.rs.length≤120∧ ∀w∈k.rs,w.length≤32768
variable {m:Nat}
theorem bB8 {y:Rt}(hl:wOk l)(h:bB5 j l x=some y)(hx:rRead m x):rRead (m+1) y:=by
 obtain⟨h1,h2,h3⟩:=hx;unfold bB5 at h;split at h
 ·
  unfold bJ8 at h;split at h
  ·
   split at h
   ·
    cases h;refine⟨by grind,fun q hq=>?_,h3⟩;rcases List.mem_append.1 hq with hq|hq
    · grind
    · simp only[List.mem_singleton]at hq;subst hq;exact hl.wd 1
   grind
  grind
 ·
  split at h
  ·
   unfold cG5 at h;split at h
   · cases h
   ·
    split at h
    ·
     cases h;refine⟨by grind,h2,fun k hk=>?_⟩;rcases List.mem_append.1 hk with hk|hk
     · exact h3 k hk
     · simp only[List.mem_singleton]at hk;subst hk;exact⟨hl.wd 3,by show(l.drop 6).length≤120;rw[List.length_drop];have:=hl.2.1;omega,fun w hw=>hl.2.2 w (List.mem_of_mem_drop hw)⟩
    grind
  ·
   unfold cG6 at h;split at h
   ·
    split at h
    · cases h;exact⟨by grind,h2,h3⟩
    grind
   grind
theorem rRead.sz (h:rRead m x)(hm:m≤100000):rSz x:=by
 obtain⟨h1,h2,h3⟩:=h;refine⟨⟨by omega,fun q hq=>by grind⟩,⟨by omega,fun k hk=>?_⟩,by omega⟩;obtain⟨k1,k2,k3⟩:=h3 k hk;exact⟨by omega,by omega,fun w hw=>by grind⟩
def RtSt (ls0:List (List aG))(x0:Rt)(j:Nat)(rest:List (List aG))(x:Rt):Prop:=
 j≤3∧rV 3 0 ls0 x0=rV (3-j) j rest x∧(∀l∈rest,wOk l)∧rest.length≤ls0.length∧rRead (ls0.length-rest.length) x
section
variable {ls0 rest:List (List aG)}{x0 x:Rt}{j:Nat}{l:List aG}
theorem RtSt.init (h: ∀l∈ls0,wOk l)(hx:rRead 0 x0):RtSt ls0 x0 0 ls0 x0:=⟨by omega,rfl,h,Nat.le_refl _,by grind⟩
theorem RtSt.hit {y:Rt}(h:RtSt ls0 x0 j (l::rest) x)(hj:j<3)(hw:wd l 0=aQ7 j)(hy:bB5 j l x=some y):RtSt ls0 x0 j rest y:=by
 obtain⟨h1,h2,h3,h4,h5⟩:=h;obtain⟨n,hn⟩: ∃n,3-j=n+1:=⟨2-j,by omega⟩;simp only[List.length_cons]at h4 h5;refine⟨h1,by rw[h2,hn,bK0 hw hy],fun l hl=>h3 l (List.mem_cons_of_mem _ hl),by omega,?_⟩;have:=bB8 (h3 l List.mem_cons_self) hy h5;grind
theorem RtSt.next (h:RtSt ls0 x0 j rest x)(hj:j<3)(hw: ∀l ls,rest=l::ls→wd l 0≠aQ7 j):RtSt ls0 x0 (j+1) rest x:=by
 obtain⟨h1,h2,h3,h4,h5⟩:=h;obtain⟨n,hn⟩: ∃n,3-j=n+1:=⟨2-j,by omega⟩;have hn2:3-(j+1)=n:=by omega
 refine⟨by omega,?_,h3,h4,h5⟩;rw[h2,hn,hn2];cases rest with
 |nil=>exact bK1
 |cons l ls=>exact bB7 (hw l ls rfl)
theorem RtSt.fin (h:RtSt ls0 x0 3 rest x):rV 3 0 ls0 x0=some (rest,x):=by rw[h.2.1];rfl
end
variable {b:aG}
theorem bU0 : ∀l∈fE b,wOk l:=by
 intro l hl;unfold fE at hl;split at hl
 ·
  cases hv:fV b with
  |none=>grind
  |some ls=>
   rw[hv]at hl;simp only[Option.getD_some]at hl;unfold fV at hv;split at hv
   · grind
   ·
    split at hv
    ·
     have key: ∀{rs:List aG} {ls:List (List aG)},rs.mapM unR=some ls→ ∀l∈ls,okL l=true:=by
      intro rs;induction rs with
      |nil=>grind
      |cons r rs ih=>
       intro ls h l hl;rw[List.mapM_cons]at h;cases hr:unR r with
       |none=>grind
       |some a=>
        rw[hr]at h;cases hm:rs.mapM unR with
        |none=>grind
        |some m=>
         rw[hm]at h;cases h;rcases List.mem_cons.1 hl with rfl|hl
         ·
          unfold unR at hr;split at hr
          ·
           split at hr
           · rename_i hk;cases hr;exact hk
           · cases hr
          · cases hr
         · exact ih hm l hl
     exact(nV l).1 (key hv l hl)
    grind
 grind
theorem bK2 :(fE b).length≤1000:=by
 unfold fE;split
 · grind[iG,fV]
 · simp
theorem gJ :tP=1099511627776:=rfl
end Go.Pl
