/- The lines of a root document, and its encoded form (11.2), in plain Lean. By an AI agent. -/
import Derived.Test.YtlldglbooaefhaaGreatDoorHzU1
import Derived.Test.YtlldglbooaefhaaGreatDoorHlTlaw
import Derived.Test.YtlldglbooaefhaaGreatDoorHlIt
import Derived.Test.YtlldglbooaefhaaGreatDoorHlZb
import Derived.Lib.ItoaLen
import Derived.Sort.Grow
import Derived.Sort.EncStr
set_option linter.unusedSimpArgs false
set_option linter.unusedVariables false
set_option linter.defProp false
namespace Go.Proofs.YtlldglbooaefhaaGreatDoor
open Go Go.Hl Go.Pl
set_option maxRecDepth 10000
set_option maxHeartbeats 16000000
theorem aL6 (l:List aH)(hl:l.length<2^40):cA Tryz.prog 79 [.slc (l.map .str)] (fun v=>v= .int .i64 (lT l)):=by
 refine FW Tryz.func79 ?_;refine R0 ?_;refine aC fun K hK=>?_;refine aM ?_;refine aC fun K hK=>Rg ?_;iterate 4 refine S0 ?_
 refine T2 (hK _ _ _ ?_);clear hK K;refine aG (b:=(l.length:Int)==0) rfl (fun hb=>?_) (fun hb=>?_)
 · refine R0 ?_;refine aF (RT Tryz.results79 ?_);exact aJ [] (.int .i64 1) rfl (by rw[lT,if_pos (by simp at hb;simp[hb])])
 have hn0:l.length≠0:=by simp at hb;simp[hb]
 clear hb;refine aC fun K hK=>Rg ?_;iterate 4 refine S0 ?_
 refine T2 (hK _ _ _ ?_);clear hK K;refine aG (b:=decide ((120:Int)<l.length)) rfl (fun hb=>?_) (fun hb=>?_)
 · refine R0 ?_;refine aF (RT Tryz.results79 ?_);exact aJ [] (.int .i64 3) rfl (by rw[lT,if_neg hn0,if_pos (by simp at hb;omega)])
 refine aK ?_;refine T0 (hK _ _ _ ?_);clear hK K;refine aC fun K hK=>?_;have hn1:l.length≤120:=by simp at hb;omega
 clear hb;refine R0 ?_;refine aM ?_;refine bI (α:={i:Nat//i≤l.length∧ ∀x∈l.take i,decide (32768<x.length)=false}) (fun i=>(fin [(13,.c (.slc (l.map .str))),(14,.c (.int .i64 l.length)),(15,.c (.int .i64 i.1))],fob [])) 100 (fun i=>l.length-i.1) ⟨0,by omega,by simp⟩ (fF) ?_;rintro⟨i,hi,h0⟩;refine R0 ?_;refine aC fun K hK=>?_;refine aG (b:=decide ((i:Int)<l.length)) rfl (fun hb=>?_) (fun hb=>?_)
 ·
  have hlt:i<l.length:=by simpa using hb
  clear hb;refine aK ?_;refine T0 (hK _ _ _ ?_);clear hK K;refine aC fun K hK=>?_;refine aM ?_;have F:=aI @Int.natCast_nonneg (aI @Int.ofNat_lt (aI hlt (nM hlt)));refine RF ?_;refine R0 ?_;refine aG (b:=decide ((32768:Int)<l[i].length)) rfl (fun hb=>?_) (fun hb=>?_)
  · refine R0 ?_;refine aF (RT Tryz.results79 ?_);exact aJ [] (.int .i64 3) rfl (by rw[lT,if_neg hn0,if_neg (by omega),if_pos];simp only[List.any_eq_true,decide_eq_true_eq];exact⟨_,List.getElem_mem hlt,by simp at hb;omega⟩)
  refine aK ?_;refine T0 (hK _ _ _ ?_);clear hK K;refine aN (by kernel_rfl) ?_;refine TQ (jB i) ?_;have hb2:decide (32768<l[i].length)=false:=by simp at hb⊢;omega
  refine⟨⟨i+1,hlt,bD8 (p:=fun x=>decide (32768<x.length)) hlt hb2 h0⟩,fF,?_⟩;show l.length-(i+1)<l.length-i;omega
 refine bD (T3 ?_);clear hK K;refine AX (hK _ _ _ ?_);clear hK K;refine R0 ?_;refine aF (RT Tryz.results79 ?_);have hei:i=l.length:=by simp at hb;omega
 subst hei;rw[List.take_length]at h0;exact aJ [] (.int .i64 0) rfl (by rw[lT,if_neg hn0,if_neg (by omega),if_neg];simp only[List.any_eq_true,not_exists,not_and];intro x hx;simp[h0 x hx])
theorem cE2 (ls:List (List aH))(h0:ls.length<2^40)(h1: ∀l∈ls,l.length<2^40):gT Tryz.prog 53 [.slc (ls.map fun l=> .slc (l.map .str))] (fun u v=>u= .slc ((nH ls).map dF)∧v= .int .i64 (jX ls)):=by
 refine FW Tryz.func53 ?_;refine R0 ?_;refine aC fun K hK=>?_;refine R0 ?_;refine aG (b:=decide ((1000:Int)<ls.length)) rfl (fun hb=>?_) (fun hb=>?_)
 · refine R0 ?_;refine aF (RT Tryz.results53 ?_);have hE:=yZ (ls:=ls) (by simp at hb;omega);refine aX [] (.slc []) (.int .i64 3) ?_ ⟨by rw[iK (by rw[hE];decide)];rfl,by rw[hE]⟩;simp[HV.close,HV.closeL,CV.denil,CV.denilL,HV.norm,HV.toC,HV.toCL]
 refine aK ?_;refine T0 (hK _ _ _ ?_);clear hK K;refine aC fun K hK=>?_;have hn:ls.length≤1000:=by simp at hb;omega
 clear hb;refine R0 ?_;refine aM ?_;refine bI (α:={i:Nat//i≤ls.length∧ ∀x∈ls.take i,okL x=true}) (fun i=>(fin [(0,.c (.slc (ls.map fun l=> .slc (l.map .str)))),(20,.c (.slc (ls.map fun l=> .slc (l.map .str)))),(21,.c (.int .i64 ls.length)),(22,.c (.int .i64 i.1))],fob [])) 100 (fun i=>ls.length-i.1) ⟨0,by omega,by simp⟩ (fF) ?_;rintro⟨i,hi,hk⟩;refine R0 ?_;refine aC fun K hK=>?_;refine aG (b:=decide ((i:Int)<ls.length)) rfl (fun hb=>?_) (fun hb=>?_)
 ·
  have hlt:i<ls.length:=by simpa using hb
  clear hb;have hl1:=h1 ls[i] (List.getElem_mem hlt);refine aK ?_;refine T0 (hK _ _ _ ?_);clear hK K;refine aC fun K hK=>?_;refine aM ?_;have F:=aI @Int.natCast_nonneg (aI @Int.ofNat_lt (aI hlt (nM hlt)));refine RF ?_;refine aC fun K hK=>Rg ?_;refine S0 ?_;refine HS rfl rfl fun K' hK'=>T5 ?_;refine C1 (aL6 ls[i] hl1) ?_;rintro u rfl;refine AX (hK' _ _ ?_);clear hK' K';refine S0 ?_;refine T2 (hK _ _ _ ?_);clear hK K;refine R0 ?_;refine aG (b:=lT ls[i] !=0) rfl (fun hb=>?_) (fun hb=>?_)
  · refine R0 ?_;refine aF (RT Tryz.results53 ?_);have hE:=qK hn hlt hk (by simpa[okL]using hb);refine aX [] (.slc []) (.int .i64 (lT ls[i])) ?_ ⟨by rw[iK (by rw[hE];simpa using hb)];rfl,by rw[hE]⟩;simp[HV.close,HV.closeL,CV.denil,CV.denilL,HV.norm,HV.toC,HV.toCL]
  refine aK ?_;refine T0 (hK _ _ _ ?_);clear hK K;refine aN (by kernel_rfl) ?_;refine TQ (jB i) ?_;refine⟨⟨i+1,hlt,?_⟩,fF,?_⟩
  ·
   intro x hx;rw[List.take_succ_eq_append_getElem hlt,List.mem_append,List.mem_singleton]at hx;rcases hx with hx|rfl
   · exact hk x hx
   simpa[okL]using hb
  show ls.length-(i+1)<ls.length-i;omega
 have hei:i=ls.length:=by simp at hb;omega
 subst hei;clear hb;rw[List.take_length]at hk;have hne: ∀l∈ls,l≠[]:=fun l hl=>((kG l).1 (hk l hl)).1;have hsd:=aX1 hk;have hdl:=qI hne;have hE:=aD3 hn hk;have hst: ∀j,sumD (ls.take j)≤sumD ls:=fun j=>aD2 ls j;have hdt: ∀j,(fK (ls.take j)).length≤sumD ls:=fun j=>by rw[qI fun l hl=>hne l (List.mem_of_mem_take hl)];exact hst j
 refine bD (T3 ?_);clear hK K;refine AX (hK _ _ _ ?_);clear hK K;refine R0 ?_;refine aC fun K hK=>?_;refine R0 ?_;refine aM ?_;refine bI (α:={i:Nat//i≤ls.length}) (fun i=>(fin [(0,.c (.slc (ls.map fun l=> .slc (l.map .str)))),(7,.c (.int .i64 (sumD (ls.take i.1):Nat))),(32,.c (.slc (ls.map fun l=> .slc (l.map .str)))),(33,.c (.int .i64 ls.length)),(34,.c (.int .i64 i.1))],fob [])) 200 (fun i=>ls.length-i.1) ⟨0,by omega⟩ (fF) ?_;rintro⟨i,hi⟩;refine R0 ?_;refine aC fun K hK=>?_;refine aG (b:=decide ((i:Int)<ls.length)) rfl (fun hb=>?_) (fun hb=>?_)
 ·
  have hlt:i<ls.length:=by simpa using hb
  clear hb;have hst1:=bC9 hlt;have hst2:=hst (i+1);obtain⟨l,hl⟩: ∃l,l=ls[i]:=⟨_,rfl⟩;obtain⟨hl0,hl1,hl2⟩:=(kG l).1 (hk l (by rw[hl];exact List.getElem_mem hlt));have hln:nth (ls.map fun l=>CV.slc (l.map .str)) i= .slc (l.map .str):=by rw[bH hlt,hl]
  rw[←hl]at hst1;refine aK ?_;refine T0 (hK _ _ _ ?_);clear hK K;refine aC fun K hK=>?_;refine aM ?_;have F:=aI @Int.natCast_nonneg (aI @Int.ofNat_lt (aI hlt hln));refine RF ?_;refine R0 ?_;refine aM ?_;refine bI (α:={i:Nat//i≤l.length}) (fun k=>(fin [(0,.c (.slc (ls.map fun l=> .slc (l.map .str)))),(7,.c (.int .i64 (sumD (ls.take i)+iJ (l.take k.1):Nat))),(32,.c (.slc (ls.map fun l=> .slc (l.map .str)))),(33,.c (.int .i64 ls.length)),(34,.c (.int .i64 i)),(38,.c (.slc (l.map .str))),(39,.c (.int .i64 l.length)),(40,.c (.int .i64 k.1))],fob [])) 300 (fun k=>l.length-k.1) ⟨0,by omega⟩ (fF) ?_;rintro⟨k,hk'⟩;refine R0 ?_;refine aC fun K hK=>?_;refine aG (b:=decide ((k:Int)<l.length)) rfl (fun hb=>?_) (fun hb=>?_)
  ·
   have hlk:k<l.length:=by simpa using hb
   clear hb;have hlt1:=bC8 hlk;have hlt2:=qJ l (k+1);have hw2:=hl2 l[k] (List.getElem_mem hlk);refine aK ?_;refine T0 (hK _ _ _ ?_);clear hK K;refine aC fun K hK=>?_;refine aM ?_;have F:=aI @Int.natCast_nonneg (aI @Int.ofNat_lt (aI hlk (nM hlk)));refine RF ?_;refine Rg ?_;have F:=aI (IntWalk.i64_in _ (show-9223372036854775808≤((sizeW l[k]:Nat):Int)+1∧((sizeW l[k]:Nat):Int)+1≤9223372036854775807 by omega)) (IntWalk.i64_in _ (show-9223372036854775808≤((sumD (ls.take i)+iJ (l.take k):Nat):Int)+(((sizeW l[k]:Nat):Int)+1)∧((sumD (ls.take i)+iJ (l.take k):Nat):Int)+(((sizeW l[k]:Nat):Int)+1)≤9223372036854775807 by omega));iterate 2 refine SF ?_
   refine HS rfl rfl fun K' hK'=>T6 ?_;refine C1 (aY1 l[k] (by omega)) ?_;rintro u rfl;refine AX (hK' _ _ ?_);clear hK' K';iterate 3 refine SF ?_
   refine T2 (hK _ _ _ ?_);clear hK K;refine aN (by kernel_rfl) ?_;refine TQ (jB k) ?_;have he:((sumD (ls.take i)+iJ (l.take k):Nat):Int)+(((sizeW l[k]:Nat):Int)+1)=((sumD (ls.take i)+iJ (l.take (k+1)):Nat):Int):=by omega
   simp only[he];refine⟨⟨k+1,hlk⟩,fF,?_⟩;show l.length-(k+1)<l.length-k;omega
  have hek:k=l.length:=by simp at hb;omega
  subst hek;clear hb;refine bD (T3 ?_);clear hK K;refine AX (hK _ _ _ ?_);clear hK K;refine aN (by kernel_rfl) ?_;refine TQ (jB i) ?_;have he:((sumD (ls.take i)+iJ (l.take l.length):Nat):Int)=((sumD (ls.take (i+1)):Nat):Int):=by rw[List.take_length];omega
  simp only[he];refine⟨⟨i+1,hlt⟩,fF,?_⟩;show ls.length-(i+1)<ls.length-i;omega
 have hei:i=ls.length:=by simp at hb;omega
 subst hei;clear hb;refine bD (T3 ?_);clear hK K;refine AX (hK _ _ _ ?_);clear hK K;refine aC fun K hK=>?_;have F:=@List.take_length.{0};refine RF ?_;refine aG (b:=decide ((262144:Int)<(sumD ls:Nat))) rfl (fun hb=>?_) (fun hb=>?_)
 · refine R0 ?_;refine aF (RT Tryz.results53 ?_);rw[if_pos (by rw[hdl];simp at hb;omega)]at hE;refine aX [] (.slc []) (.int .i64 3) ?_ ⟨by rw[iK (by rw[hE];decide)];rfl,by rw[hE]⟩;simp[HV.close,HV.closeL,CV.denil,CV.denilL,HV.norm,HV.toC,HV.toCL]
 refine aK ?_;refine T0 (hK _ _ _ ?_);clear hK K;have hle:sumD ls≤262144:=by simp at hb;omega
 have hz:((sumD ls:Nat):Int)≤140737488355328:=by omega
 clear hb;rw[if_neg (by rw[hdl];omega)]at hE;have hO:=uL hE;have F:=aI @Int.natCast_nonneg (aI hz (aI @Int.mul_one @List.take_length.{0}));refine RF ?_;refine aC fun K hK=>?_;refine R0 ?_;refine aM ?_;refine bI (α:={i:Nat//i≤ls.length}) (fun i=>(fin [(12,.own 216 (fK (ls.take i.1)).length),(55,.c (.slc (ls.map fun l=> .slc (l.map .str)))),(56,.c (.int .i64 ls.length)),(57,.c (.int .i64 i.1))],fob [(216,.row 5 1 ((fK (ls.take i.1)).map dF))])) 400 (fun i=>ls.length-i.1) ⟨0,by omega⟩ (fF) ?_;rintro⟨i,hi⟩;refine R0 ?_;refine aC fun K hK=>?_;refine aG (b:=decide ((i:Int)<ls.length)) rfl (fun hb=>?_) (fun hb=>?_)
 ·
  have hlt:i<ls.length:=by simpa using hb
  clear hb;have hdt1:=yY hlt;have hdt0:=hdt i;obtain⟨l,hl⟩: ∃l,l=ls[i]:=⟨_,rfl⟩;have hok:=hk l (by rw[hl];exact List.getElem_mem hlt);have hsl:=aX0 hok;obtain⟨hl0,hl1,hl2⟩:=(kG l).1 hok;have hln:nth (ls.map fun l=>CV.slc (l.map .str)) i= .slc (l.map .str):=by rw[bH hlt,hl]
  rw[←hl]at hdt1;refine aK ?_;refine T0 (hK _ _ _ ?_);clear hK K;refine aC fun K hK=>?_;refine aM ?_;have F:=aI @Int.natCast_nonneg (aI @Int.ofNat_lt (aI hlt hln));refine RF ?_;refine aC fun K hK=>?_;refine R0 ?_;refine aM ?_;refine bI (α:={i:Nat//i≤l.length}) (fun k=>(fin [(12,.own 216 (fK (ls.take i)++gH (l.take k.1)).length),(55,.c (.slc (ls.map fun l=> .slc (l.map .str)))),(56,.c (.int .i64 ls.length)),(57,.c (.int .i64 i)),(61,.c (.slc (l.map .str))),(62,.c (.int .i64 l.length)),(63,.c (.int .i64 k.1))],fob [(216,.row 5 1 ((fK (ls.take i)++gH (l.take k.1)).map dF))])) 500 (fun k=>l.length-k.1) ⟨0,by omega⟩ (fF) ?_;rintro⟨k,hk'⟩;have hsw:=aW9 (l.take k);have hst2:=qJ l k;refine R0 ?_;refine aC fun K hK=>?_;refine aG (b:=decide ((k:Int)<l.length)) rfl (fun hb=>?_) (fun hb=>?_)
  ·
   have hlk:k<l.length:=by simpa using hb
   clear hb;have hw2:=hl2 l[k] (List.getElem_mem hlk);have hel:=qH l[k];have hsz:=nG l[k];have hsp:=yW l[k];have hpe:0<(gX l[k]).length:=by omega
   have htk:=yX hlk;have hbe:(fK (ls.take i)).length+(gH (l.take k)).length+(gX l[k]).length≤140737488355328:=by omega
   have hbe1:(fK (ls.take i)).length+(gH (l.take k)).length+1+(gX l[k]).length≤140737488355328:=by omega
   refine aK ?_;refine T0 (hK _ _ _ ?_);clear hK K;refine aC fun K hK=>?_;refine aM ?_;refine aC fun K hK=>Rg ?_;have F:=aI @Int.natCast_nonneg (aI @Int.ofNat_lt (aI hlk (nM hlk)));iterate 5 refine SF ?_
   refine T2 (hK _ _ _ ?_);clear hK K;refine aC fun K hK=>?_;refine R0 ?_;refine aG (b:=decide ((0:Int)<k)) rfl (fun hb=>?_) (fun hb=>?_)
   ·
    refine Rg ?_;have F:=aI @List.length_append.{0} @List.length_map.{0,0};iterate 4 refine SF ?_
    refine T2 (hK _ _ _ ?_);clear hK K;refine Rg ?_;have F:=aI @List.length_append.{0} (aI @List.length_map.{0,0} (aI hpe (aI hbe hbe1)));iterate 2 refine SF ?_
    refine HS rfl rfl fun K' hK'=>T6 ?_;refine C1 (aY2 l[k] (by omega)) ?_;rintro u rfl;refine AX (hK' _ _ ?_);clear hK' K';iterate 2 refine SF ?_
    refine T2 (hK _ _ _ ?_);clear hK K;refine aN (by kernel_rfl) ?_;refine TQ (jB k) ?_;have hk0:k≠0:=by simp at hb;omega
    refine⟨⟨k+1,hlk⟩,aL (by omega) ?_ ?_,?_⟩
    · rw[htk,if_neg hk0];simp[aS,upd_at,fin_at,HV.men];omega
    · rw[htk,if_neg hk0];simp only[List.map_append,←List.append_assoc];exact⟨rfl,by omega,trivial,trivial⟩
    show l.length-(k+1)<l.length-k;omega
   refine aK ?_;refine T0 (hK _ _ _ ?_);clear hK K;refine Rg ?_;have F:=aI @List.length_append.{0} (aI @List.length_map.{0,0} (aI hpe (aI hbe hbe1)));iterate 2 refine SF ?_
   refine HS rfl rfl fun K' hK'=>T6 ?_;refine C1 (aY2 l[k] (by omega)) ?_;rintro u rfl;refine AX (hK' _ _ ?_);clear hK' K';iterate 2 refine SF ?_
   refine T2 (hK _ _ _ ?_);clear hK K;refine aN (by kernel_rfl) ?_;refine TQ (jB k) ?_;have hk0:k=0:=by simp at hb;omega
   refine⟨⟨k+1,hlk⟩,aL (by omega) ?_ ?_,?_⟩
   · rw[htk,if_pos hk0];simp[aS,upd_at,fin_at,HV.men];omega
   · rw[htk,if_pos hk0,List.nil_append];simp only[List.map_append,←List.append_assoc];exact⟨rfl,by omega,trivial,trivial⟩
   show l.length-(k+1)<l.length-k;omega
  have hek:k=l.length:=by simp at hb;omega
  subst hek;clear hb;rw[List.take_length]at*;refine bD (T3 ?_);clear hK K;refine AX (hK _ _ _ ?_);clear hK K;refine Rg ?_;have F:=aI @List.length_append.{0} @List.length_map.{0,0};iterate 4 refine SF ?_
  refine T2 (hK _ _ _ ?_);clear hK K;refine aN (by kernel_rfl) ?_;refine TQ (jB i) ?_;refine⟨⟨i+1,hlt⟩,aL (by omega) ?_ ?_,?_⟩
  · rw[hdt1,xU];simp[aS,upd_at,fin_at,HV.men];omega
  · rw[hdt1,xU];simp only[List.map_append,←List.append_assoc];exact⟨rfl,by omega,trivial,trivial⟩
  show ls.length-(i+1)<ls.length-i;omega
 refine bD (T3 ?_);clear hK K;refine AX (hK _ _ _ ?_);clear hK K;refine R0 ?_;refine aF (RT Tryz.results53 ?_);have hei:i=ls.length:=by simp at hb;omega
 subst hei;refine aX [216] (.slc ((fK ls).map dF)) (.int .i64 0) ?_ ⟨by rw[hO],by rw[hE]⟩;rw[List.take_length];simp[HV.close,fob_at,upd_at,HV.norm,HV.toC,HV.closeL,HV.toCL,List.take_of_length_le,CV.denil,cX]
theorem bW0 (v:CV):nth [v] 0=v:=rfl
theorem wJ (c:UInt8):(u8 c).denil=u8 c:=rfl
theorem denilL_u8 : ∀bs:List UInt8,CV.denilL (bs.map u8)=bs.map u8
 |[]=>rfl
 |b::bs=>by simp only[List.map_cons,CV.denilL,denilL_u8 bs];rfl
theorem bW1 (l:List UInt8)(c:UInt8):cA Tryz.prog 142 [.slc (l.map u8),u8 c] (fun v=>v= .int .i64 (dW l c)):=
 cE0 (f:=142) (fn:=Tryz.f142) Tryz.func142 (by kernel_rfl) (by kernel_rfl) (by kernel_rfl) (by kernel_rfl) l c
theorem bM1 (l:List UInt8)(c:UInt8):cA Tryz.prog 141 [.str l,u8 c] (fun v=>v= .int .i64 (dW l c)):=
 bV4 (f:=141) (fn:=Tryz.f141) Tryz.func141 (by kernel_rfl) (by kernel_rfl) (by kernel_rfl) (by kernel_rfl) l c
theorem cE3 (l:List UInt8)(c:UInt8):cA Tryz.prog 122 [.slc (l.map u8),u8 c] (fun v=>v= .int .i64 (dW l c)):=by
 refine FW Tryz.func122 ?_;have F:=rI;refine RF ?_;refine aC fun K hK=>Rg ?_;have F:=aI rI (aI @denilL_u8 @wJ);iterate 2 refine SF ?_
 refine HS rfl rfl fun K' hK'=>T6 ?_;refine C2 (bW1 l c) ?_;rintro u rfl;refine AX (hK' _ _ ?_);clear hK' K';refine SF ?_;simp only[sE,↓reduceIte,simprocAttr,rI];refine AX (hK _ _ _ ?_);clear hK K;refine aF ?_;simp only[gR,Tryz.results122,fW,gQ,fH,↓sP,sA,tyS,simprocAttr,rI];exact aJ [] (.int .i64 (dW l c)) rfl rfl
theorem bM2 (l:List UInt8)(c:UInt8):cA Tryz.prog 121 [.str l,u8 c] (fun v=>v= .int .i64 (dW l c)):=by
 refine FW Tryz.func121 ?_;have F:=rI;refine RF ?_;refine aC fun K hK=>Rg ?_;have F:=aI rI (aI @denilL_u8 @wJ);iterate 2 refine SF ?_
 refine HS rfl rfl fun K' hK'=>T6 ?_;refine C2 (bM1 l c) ?_;rintro u rfl;refine AX (hK' _ _ ?_);clear hK' K';refine SF ?_;simp only[sE,↓reduceIte,simprocAttr,rI];refine AX (hK _ _ _ ?_);clear hK K;refine aF ?_;simp only[gR,Tryz.results121,fW,gQ,fH,↓sP,sA,tyS,simprocAttr,rI];exact aJ [] (.int .i64 (dW l c)) rfl rfl
theorem qS (l:List UInt8)(c:UInt8):cA Tryz.prog 104 [.str l,u8 c] (fun v=>v= .int .i64 (dW l c)):=by
 refine FW Tryz.func104 ?_;have F:=rI;refine RF ?_;refine aC fun K hK=>Rg ?_;have F:=aI rI (aI @denilL_u8 @wJ);iterate 2 refine SF ?_
 refine HS rfl rfl fun K' hK'=>T6 ?_;refine C2 (bM2 l c) ?_;rintro u rfl;refine AX (hK' _ _ ?_);clear hK' K';refine SF ?_;simp only[sE,↓reduceIte,simprocAttr,rI];refine AX (hK _ _ _ ?_);clear hK K;refine aF ?_;simp only[gR,Tryz.results104,fW,gQ,fH,↓sP,sA,tyS,simprocAttr,rI];exact aJ [] (.int .i64 (dW l c)) rfl rfl
theorem zM (l:List UInt8)(c:UInt8):cA Tryz.prog 105 [.slc (l.map u8),.slc [u8 c]] (fun v=>v= .int .i64 (dW l c)):=by
 refine FW Tryz.func105 ?_;have F:=rI;refine RF ?_;refine RF ?_;refine aC fun K hK=>?_;refine aM ?_;refine RF ?_;refine aG (b:=(1:Int)==0) rfl (fun hb=>?_) (fun hb=>?_)
 · exact absurd hb (by decide)
 refine RF ?_;refine aG (b:=(1:Int)==1) rfl (fun hb=>?_) (fun hb=>?_)
 ·
  refine aC fun K hK=>Rg ?_;have F:=aI rI (aI @u8.eq_1 (aI @bW0 @denilL_u8));iterate 4 refine SF ?_
  refine HS rfl rfl fun K' hK'=>T6 ?_;refine C2 (cE3 l c) ?_;rintro u rfl;refine AX (hK' _ _ ?_);clear hK' K';refine SF ?_;simp only[sE,↓reduceIte,simprocAttr,rI];refine AX (hK _ _ _ ?_);clear hK K;refine aF ?_;simp only[gR,Tryz.results105,fW,gQ,fH,↓sP,sA,tyS,simprocAttr,rI];exact aJ [] (.int .i64 (dW l c)) rfl rfl
 exact absurd hb (by decide)
theorem bW2 (l:List UInt8)(c:UInt8)(hl:l.length<2^40):aD6 Tryz.prog 85 [.slc (l.map u8),.slc [u8 c]] (fun x y f=> ∃(li re:List UInt8) (fd:Bool),x= .slc (li.map u8)∧y= .slc (re.map u8)∧f= .bool fd∧CutR l c li re fd):=by
 refine FW Tryz.func85 ?_;have F:=rI;refine RF ?_;refine aC fun K hK=>?_;refine aC fun K hK=>Rg ?_;have F:=aI rI @denilL_u8;iterate 2 refine SF ?_
 refine HS rfl rfl fun K' hK'=>T6 ?_;refine C2 (zM l c) ?_;rintro u rfl;refine AX (hK' _ _ ?_);clear hK' K';refine SF ?_;simp only[sE,↓reduceIte,simprocAttr,rI];refine AX (hK _ _ _ ?_);clear hK K;have F:=rI;refine RF ?_;refine aG (b:=decide ((0:Int)≤dW l c)) rfl (fun hb=>?_) (fun hb=>?_)
 ·
  have hn: ¬dW l c<0:=by simp at hb;omega
  obtain⟨i,hi,hil,hsp⟩:=eL hn;have hi':=hi;rw[hi];refine aC fun K hK=>QR ?_;have F:=aI rI (aI @Int.natCast_nonneg (aI @Int.ofNat_le (aI @Int.sub_zero (aI @Nat.sub_zero (aI @List.drop_zero.{0} (aI @nE (aI @denilL_u8 (aI @List.length_map.{0,0} (show IntKind.i64.wrap ((i:Int)+1)=((i+1:Nat):Int)from by rw[IntWalk.i64_in _ (by omega)];rfl)))))))));iterate 12 refine SF ?_
  simp only[sE,↓reduceIte,simprocAttr,rI];refine AX (hK _ _ _ ?_);clear hK K;refine aF ?_;simp only[gR,Tryz.results85,fW,gQ,fH,↓sP,sA,tyS,simprocAttr,rI];refine jO [] (.slc ((l.take i).map u8)) (.slc ((l.drop (i+1)).map u8)) (.bool true) ?_ ⟨_,_,_,rfl,rfl,rfl,.inr ⟨rfl,i,hi,hil,rfl,rfl⟩⟩;simp[HV.close,HV.closeL,HV.norm,HV.toC,HV.toCL,CV.denil,denilL_u8];exact⟨by rw[←List.map_take,denilL_u8],by rw[←List.map_drop,←List.map_take,denilL_u8,List.take_of_length_le (by simp)]⟩
 have hn:dW l c<0:=by simp at hb;omega
 refine aK ?_;refine TQ rI ?_;refine AX (hK _ _ _ ?_);clear hK K;refine aC fun K hK=>Rg ?_;iterate 4 refine SF ?_
 simp only[sE,↓reduceIte,simprocAttr,rI];refine AX (hK _ _ _ ?_);clear hK K;refine aF ?_;simp only[gR,Tryz.results85,fW,gQ,fH,↓sP,sA,tyS,simprocAttr,rI];refine jO [] (.slc (l.map u8)) (.slc []) (.bool false) ?_ ⟨l,[],false,rfl,rfl,rfl,.inl ⟨rfl,hn,rfl,rfl⟩⟩;simp[HV.close,HV.closeL,HV.norm,HV.toC,HV.toCL,CV.denil,denilL_u8]
theorem bW3 (l:List UInt8)(c:UInt8):aX9 Tryz.prog 106 126 [.slc (l.map u8),.slc [u8 c],.int .i64 0] [(47,.slc [u8 c]),(47,.slc (l.map u8)),(3,.int .i64 0)]:=by
 refine FW Tryz.func106 ?_;refine aC fun K hK=>Rg ?_;have F:=rI;iterate 4 refine SF ?_
 simp only[sE,↓reduceIte,simprocAttr,rI];refine AX (hK _ _ _ ?_);clear hK K;refine RF ?_;refine aF ?_;simp only[gR,Tryz.results106,fW,gQ,fH,↓sP,sA,tyS,simprocAttr,rI];refine sM (gf:=126) (bs:=[(47,.slc [u8 c]),(47,.slc (l.map u8)),(3,.int .i64 0)]) (ids:=[4,0,8]) rfl (by simp) (by decide) ?_ ?_
 ·
  intro j x hx
  match j,hx with
  |0,hx=>cases hx;rfl
  |1,hx=>cases hx;rfl
  |2,hx=>cases hx;rfl
 intro x hx;simp only[List.mem_cons,List.not_mem_nil,or_false]at hx;rcases hx with rfl|rfl|rfl
 · rfl
 · exact congrArg CV.slc (denilL_u8 l)
 rfl
theorem bE3 (l:List UInt8)(c:UInt8):aX9 Tryz.prog 86 126 [.slc (l.map u8),.slc [u8 c]] [(47,.slc [u8 c]),(47,.slc (l.map u8)),(3,.int .i64 0)]:=by
 refine FW Tryz.func86 ?_;have F:=rI;refine RF ?_;refine aC fun K hK=>Rg ?_;iterate 2 refine S0 ?_ (e:=fun _ h_=>by simp only[sH,↓sP,sA,tyS,simprocAttr,rI,denilL_u8,mL,gU,List.range',List.map_cons,List.map_nil];exact AX h_)
 refine HS rfl rfl fun K' hK'=>?_;simp only[sH,↓sP,sA,tyS,simprocAttr,rI,denilL_u8,mL,gU,List.range',List.map_cons,List.map_nil];refine sL (args:=[_,_,_]) (bW3 l c) (by simp) ⟨rfl,rfl,rfl,rfl⟩ ?_;refine AX (hK' _ _ ?_);clear hK' K';refine S0 ?_ (e:=fun _ h_=>by simp only[sH,↓sP,sA,tyS,simprocAttr,rI,denilL_u8,mL,gU,List.range',List.map_cons,List.map_nil];exact AX h_);simp only[sE,↓reduceIte,simprocAttr,rI];refine AX (hK _ _ _ ?_);clear hK K;refine aF ?_;simp only[gR,Tryz.results86,fW,gQ,fH,↓sP,sA,tyS,simprocAttr,rI];refine sM (gf:=126) (bs:=[(47,.slc [u8 c]),(47,.slc (l.map u8)),(3,.int .i64 0)]) (ids:=[12,13,14]) rfl (by simp) (by decide) ?_ ?_
 ·
  intro j x hx
  match j,hx with
  |0,hx=>cases hx;rfl
  |1,hx=>cases hx;rfl
  |2,hx=>cases hx;rfl
 intro x hx;simp only[List.mem_cons,List.not_mem_nil,or_false]at hx;rcases hx with rfl|rfl|rfl
 · rfl
 · exact congrArg CV.slc (denilL_u8 l)
 rfl
end Go.Proofs.YtlldglbooaefhaaGreatDoor
namespace Go.Pl
open Go Go.Hl
theorem aS7 {c:UInt8}{l:List UInt8}(h:(aR c l).length=1):aR c l=[l]:=by
 by_cases hn:dW l c<0;all_goals grind[nI,eL,List.length_pos_iff,dD,List.length_cons]
def SplSt (l:aH)(c:UInt8)(i:Nat)(rest:aH)(a:List aH):Prop:=
 a.length=(aR c l).length∧a.take i=(aR c l).take i∧(aR c l).drop i=aR c rest∧i<(aR c l).length∧rest.length≤l.length
section
variable {l rest:aH}{c:UInt8}{i k:Nat}{a:List aH}
theorem SplSt.init (l:aH)(c:UInt8):SplSt l c 0 l (List.replicate (aR c l).length []):=
 ⟨by simp,by simp,rfl,List.length_pos_iff.2 (dD c l),Nat.le_refl _⟩
theorem SplSt.next (h:SplSt l c i rest a)(hk:dW rest c=(k:Int)):k<rest.length∧SplSt l c (i+1) (rest.drop (k+1)) (a.set i (rest.take k)):=by
 obtain⟨h1,h2,h3,h4,h5⟩:=h;obtain⟨k',e1,e2,e3⟩:=eL (l:=rest) (c:=c) (by omega);have:k'=k:=by omega
 subst this;rw[e3]at h3;have h6:=List.drop_eq_getElem_cons h4;rw[h6]at h3;have h7:=List.head_eq_of_cons_eq h3;have h8:=List.tail_eq_of_cons_eq h3;refine⟨e2,by grind,?_,h8,?_,by grind⟩
 · rw[List.take_succ_eq_append_getElem (by grind),List.take_succ_eq_append_getElem h4,List.getElem_set_self,List.take_set_of_le (Nat.le_refl _),h2,h7]
 grind[Nat.lt_or_ge,aR,List.drop_eq_nil_of_le,absurd,dD]
theorem SplSt.last (h:SplSt l c i rest a)(hk:dW rest c<0):i+1=(aR c l).length:=by
 obtain⟨h1,h2,h3,h4,h5⟩:=h;rw[nI hk]at h3;have:=congrArg List.length h3;grind
theorem SplSt.fin (h:SplSt l c i rest a)(hi:i+1=(aR c l).length):a.set i rest=aR c l:=by
 obtain⟨h1,h2,h3,h4,h5⟩:=h;have h6:(aR c rest).length=1:=by rw[←h3,List.length_drop];omega
 rw[aS7 h6]at h3;have e1:a.set i rest=(a.set i rest).take (i+1):=(List.take_of_length_le (by grind)).symm;rw[e1,List.take_succ_eq_append_getElem (by grind),List.getElem_set_self,List.take_set_of_le (Nat.le_refl _),h2];grind[List.take_append_drop,aR]
end
def nP (c:UInt8):Bool:=decide (48≤c.toNat)&&decide (c.toNat≤57)
def dT :aH→Nat→Option Nat
 |[],n=>some n
 |c::l,n=>if nP c then dT l (10*n+(c.toNat-48))else none
def gV (s:aH):Bool:=decide (s.length<1)||decide (13<s.length)||(decide (1<s.length)&&s.getD 0 0==48)
def bN (s:aH):Option Int:=if gV s then none else match dT s 0 with|some n=>if 1099511627776<n then none else some (n:Int)|none=>none
def DgSt (s:aH)(i n:Nat):Prop:=i≤s.length∧dT s 0=dT (s.drop i) n∧n<10^i
theorem DgSt.init (s:aH):DgSt s 0 0:=⟨Nat.zero_le _,rfl,by omega⟩
variable {i n:Nat}{s:aH}
theorem DgSt.next (h:DgSt s i n)(hi:i<s.length)(hd:nP s[i]=true):DgSt s (i+1) (10*n+(s[i].toNat-48)):=by
 obtain⟨h1,h2,h3⟩:=h;refine⟨hi,?_,?_⟩
 · rw[h2,List.drop_eq_getElem_cons hi,dT,if_pos hd]
 · simp only[nP,Bool.and_eq_true,decide_eq_true_eq]at hd;grind
theorem DgSt.bad (h:DgSt s i n)(hi:i<s.length)(hd:nP s[i]=false):dT s 0=none:=by
 rw[h.2.1,List.drop_eq_getElem_cons hi,dT,if_neg (by grind)]
theorem DgSt.fin (h:DgSt s i n)(hi:i=s.length):dT s 0=some n:=by
 rw[h.2.1,hi,List.drop_length];rfl
theorem DgSt.lt (h:DgSt s i n)(hs:s.length≤13):n<10000000000000:=by
 have:10^i≤10^13:=Nat.pow_le_pow_right (by omega) (Nat.le_trans h.1 hs);have:=h.2.2;omega
theorem wK (h:gV s=true):bN s=none:=by unfold bN;grind
theorem zN (h:dT s 0=none):bN s=none:=by grind[bN]
theorem bM3 (h:dT s 0=some n)(h1:1099511627776<n):bN s=none:=by simp_all[bN,if_pos]
theorem aY3 {n:Nat}(h0:gV s=false)(h:dT s 0=some n)(h1: ¬1099511627776<n):bN s=some (n:Int):=by simp_all[bN,if_neg]
theorem bM4 (c:UInt8):nP c=(decide ((48:Int)≤(c.toNat:Int))&&decide ((c.toNat:Int)≤57)):=by
 unfold nP;grind
theorem aS8 {n:Int}(h:bN s=some n):0≤n∧n≤1099511627776:=by grind[bN]
end Go.Pl
namespace Go.Proofs.YtlldglbooaefhaaGreatDoor
open Go Go.Hl Go.Pl
set_option maxRecDepth 10000
set_option maxHeartbeats 16000000
theorem aS9 (l:List UInt8)(c:UInt8):cA Tryz.prog 134 [.str l,.str [c]] (fun v=>v= .int .i64 (dW l c)):=by
 refine FW Tryz.func134 ?_;refine R0 ?_;refine R0 ?_;refine aC fun K hK=>?_;refine aM ?_;refine aC fun K hK=>Rg ?_;iterate 3 refine S0 ?_
 refine aE 18 rfl (fun h2_18=>?_) (fun h2_18=>?_)
 ·
  have F:=h2_18;iterate 5 refine SF ?_
  refine T2 (hK _ _ _ ?_);clear hK K;refine CT rfl ?_;refine R0 ?_;refine aF (RT Tryz.results134 ?_);exact absurd h2_18 (by decide)
 have F:=h2_18;iterate 5 refine SF ?_
 refine aE 22 rfl (fun h2_22=>?_) (fun h2_22=>?_)
 · simp only[h2_22];refine T2 (hK _ _ _ ?_);clear hK K;refine CT rfl ?_;refine R0 ?_;refine aF (RT Tryz.results134 ?_);have hl:l=[c]:=(eq_of_beq h2_22).symm;subst hl;exact aJ [] (.int .i64 0) rfl (by simp[dW])
 simp only[h2_22];refine T2 (hK _ _ _ ?_);clear hK K;refine CF rfl ?_;refine R0 ?_;refine aG (b:=(1:Int)==1) rfl (fun hb=>?_) (fun hb=>?_)
 ·
  refine aC fun K hK=>Rg ?_;have F:=aI @List.getD_cons_zero.{0} (aI h2_18 h2_22);iterate 3 refine SF ?_
  refine HS rfl rfl fun K' hK'=>T6 ?_;refine C2 (bM2 l c) ?_;rintro u rfl;refine AX (hK' _ _ ?_);clear hK' K';refine SF ?_;refine T2 (hK _ _ _ ?_);clear hK K;refine aF (RT Tryz.results134 ?_);exact aJ [] (.int .i64 (dW l c)) rfl rfl
 exact absurd hb (by decide)
end Go.Proofs.YtlldglbooaefhaaGreatDoor
namespace Go.Pl
open Go Go.Hl
def tab (n:Nat)(f:Nat→Bool):List Bool:=(List.range n).map f
theorem lZ (n:Nat)(f:Nat→Bool):(tab n f).length=n:=by simp[tab]
variable {i n:Nat}{f:Nat→Bool}
theorem qT (h:i<n):(tab n f)[i]'(by rw[lZ];exact h)=f i:=by simp[tab]
theorem bE4 (n:Nat):List.replicate n false=tab n (fun _=>false):=by
 refine List.ext_getElem (by simp[lZ]) fun i h1 h2=>?_;grind[qT]
theorem bW4 {b:Bool}:(tab n f).set i b=tab n (fun j=>if j=i then b else f j):=by
 refine List.ext_getElem (by simp[lZ]) fun j h1 h2=>?_;rw[lZ]at h2;rw[qT h2,List.getElem_set];by_cases e:i=j
 · grind
 · rw[if_neg e,if_neg fun h=>e h.symm,qT h2]
theorem aY4 {g:Nat→Bool}(h: ∀i,i<n→f i=g i):tab n f=tab n g:=by grind[List.ext_getElem,lZ,qT]
def bC1 (b:Bool):CV:= .bool b
theorem bW5 (h:i<n):nth ((tab n f).map bC1) i= .bool (f i):=by
 rw[bH (by rw[lZ];exact h),qT h];rfl
section
variable (ps:List Pt)(s:aH)
def prt (k:Nat):Pt:=ps.getD k ⟨0,0⟩
theorem cI9 :mD ps s 0 0=true:=by rw[mD.eq_def]
theorem cJ0 (i:Nat):mD ps s 0 (i+1)=false:=by rw[mD.eq_def]
theorem cJ1 (k:Nat):mD ps s (k+1) 0=((prt ps k).long&&mD ps s k 0):=by rw[mD.eq_def];rfl
theorem pB (k i:Nat):mD ps s (k+1) (i+1)=if(prt ps k).long then mD ps s k (i+1)||(mD ps s (k+1) i&&(prt ps k).takes (s.getD i 0))else mD ps s k i&&(prt ps k).takes (s.getD i 0):=by
 rw[mD.eq_def];rfl
def nxt (k i j:Nat):Bool:=if j≤i then mD ps s (k+1) j else false
theorem bM5 (k:Nat)(j:Nat):(if j=0 then(mD ps s k 0&&(prt ps k).long)else false)=nxt ps s k 0 j:=by
 unfold nxt;by_cases h:j=0
 · subst h;rw[if_pos rfl,if_pos (Nat.le_refl _),cJ1,Bool.and_comm]
 · rw[if_neg h,if_neg (by omega)]
theorem bM6 (k i:Nat)(j:Nat):(if j=i+1 then mD ps s (k+1) (i+1)else nxt ps s k i j)=nxt ps s k (i+1) j:=by
 unfold nxt;grind
theorem bW6 (k:Nat):tab (s.length+1) (nxt ps s k s.length)=tab (s.length+1) (mD ps s (k+1)):=
 aY4 fun i hi=>by unfold nxt;grind
theorem bM7 :tab (s.length+1) (fun j=>if j=0 then true else false)=tab (s.length+1) (mD ps s 0):=
 aY4 fun i _=>by
  cases i with
  |zero=>rw[cI9];rfl
  |succ i=>rw[cJ0];rfl
end
end Go.Pl
namespace Go.Proofs.YtlldglbooaefhaaGreatDoor
open Go Go.Hl Go.Pl
set_option maxRecDepth 10000
set_option maxHeartbeats 16000000
theorem bE5 (c d:UInt8):((c.toNat:Int)==(d.toNat:Int))=(c==d):=by
 by_cases h:c=d
 · simp[h]
 have: ¬(c.toNat:Int)=(d.toNat:Int):=fun e=>h (UInt8.toNat_inj.1 (by omega));rw[beq_false_of_ne this,beq_false_of_ne h]
theorem cM1 (c d:UInt8):((c.toNat:Int) !=(d.toNat:Int))=!(c==d):=by
 show(!((c.toNat:Int)==(d.toNat:Int)))=_;rw[bE5]
theorem fL (x:Pt)(hk:x.k≤3):cA Tryz.prog 98 [x.cv] (fun v=>v= .bool x.long):=by
 refine FW Tryz.func98 ?_;have F:=aI @Pt.cells (aI @Pt.isAgg @Pt.getAll);refine RF ?_;refine aC fun K hK=>Rg ?_;have F:=@Pt.get_k;iterate 4 refine SF ?_
 refine aE 5 rfl (fun h1_5=>?_) (fun h1_5=>?_)
 ·
  have F:=aI @Pt.get_k h1_5;iterate 5 refine SF ?_
  refine T2 (hK _ _ _ ?_);clear hK K;refine aF (RT Tryz.results98 ?_);refine aJ [] (.bool _) rfl ?_;have hkk:x.k=0∨x.k=1∨x.k=2∨x.k=3:=by omega
  rcases hkk with h|h|h|h<;>simp_all[Pt.long]
 have F:=aI @Pt.get_k h1_5;iterate 5 refine SF ?_
 refine T2 (hK _ _ _ ?_);clear hK K;refine aF (RT Tryz.results98 ?_);refine aJ [] (.bool _) rfl ?_;have hkk:x.k=0∨x.k=1∨x.k=2∨x.k=3:=by omega
 rcases hkk with h|h|h|h<;>simp_all[Pt.long]
theorem bW7 (c:UInt8):cA Tryz.prog 115 [u8 c] (fun v=>v= .bool true):=by
 refine FW Tryz.func115 ?_;refine R0 ?_;refine R0 ?_;refine aF (RT Tryz.results115 ?_);exact aJ [] (.bool true) rfl rfl
theorem aY5 (c:UInt8):cA Tryz.prog 116 [u8 c] (fun v=>v= .bool (!(c==47))):=by
 refine FW Tryz.func116 ?_;refine R0 ?_;refine R0 ?_;refine aF (RT Tryz.results116 ?_);exact aJ [] (.bool (!(c==47))) (by rw[←cM1 c 47];rfl) rfl
end Go.Proofs.YtlldglbooaefhaaGreatDoor
namespace Go.Pl
open Go Go.Hl
def aft (l:List Nd)(i:Nat):Nat:=l.length-((skip 1 (l.drop i)).getD []).length
variable {i:Nat}{l:List Nd}
theorem aT0 {j:Nat}(hj:j≤l.length)(h:skip 1 (l.drop i)=some (l.drop j)):aft l i=j:=by grind[aft,List.length_drop]
theorem iB (h:IsTree l)(hi:i<l.length):i<aft l i∧aft l i≤l.length∧skip 1 (l.drop i)=some (l.drop (aft l i)):=by grind[bK2,aT0]
def AftSt (l:List Nd)(i m p:Nat):Prop:=p≤l.length∧skip m (l.drop p)=skip 1 (l.drop i)
theorem AftSt.lt (ht:IsTree l){m p:Nat}(hi:i<l.length)(h:AftSt l i m p)(hm:0<m):p<l.length:=by
 rcases Nat.lt_or_ge p l.length with h1|h1
 · grind
 · have h2:=h.2;rw[List.drop_eq_nil_of_le h1,(iB ht hi).2.2]at h2;obtain⟨k,rfl⟩: ∃k,m=k+1:=⟨m-1,by omega⟩;cases h2
theorem AftSt.next {m p:Nat}(h:AftSt l i (m+1) p)(hp:p<l.length):AftSt l i (m+l[p].c.toNat) (p+1):=by
 refine⟨hp,?_⟩;rw[←h.2,List.drop_eq_getElem_cons hp];rfl
theorem AftSt.fin {p:Nat}(h:AftSt l i 0 p):p=aft l i:=by
 have h2:=h.2;rw[cU]at h2;exact(aT0 h.1 h2.symm).symm
def kJ (l:List Nd):Nat→Nat→List Nat
 |0,_=>[]
 |k+1,at_=>at_::kJ l k (aft l at_)
def bM8 (l:List Nd)(i:Nat):List Nat:=kJ l (l.getD i nd0).c.toNat (i+1)
def sO (l:List Nd)(i:Int):List Nat:=if dK l=true∧0≤i∧i<l.length then bM8 l i.toNat else []
theorem zO (l:List Nd): ∀(k p:Nat),(kJ l k p).length=k
 |0,_=>rfl
 |k+1,p=>by simp[kJ,zO l k]
def dB (l:List Nd):Nat→Nat→Nat
 |0,p=>p
 |k+1,p=>dB l k (aft l p)
theorem fM (l:List Nd): ∀(k p:Nat),dB l (k+1) p=aft l (dB l k p)
 |0,p=>rfl
 |k+1,p=>fM l k (aft l p)
theorem wL (l:List Nd): ∀(k p:Nat),kJ l (k+1) p=kJ l k p++[dB l k p]
 |0,p=>rfl
 |k+1,p=>by rw[kJ,wL l k];rfl
theorem gJ {l:List Nd}(ht:IsTree l){i:Nat}(hi:i<l.length): ∀k,k≤l[i].c.toNat→dB l k (i+1)≤l.length∧skip (l[i].c.toNat-k) (l.drop (dB l k (i+1)))=some (l.drop (aft l i))∧i+1≤dB l k (i+1)
 |0,_=>by
  refine⟨hi,?_,Nat.le_refl _⟩;have:=(iB ht hi).2.2;rw[List.drop_eq_getElem_cons hi]at this;show skip (l[i].c.toNat-0) _=_;rw[←this,Nat.sub_zero];show _=skip (0+l[i].c.toNat) _;rw[Nat.zero_add];rfl
 |k+1,hk=>by
  obtain⟨h1,h2,h3⟩:=gJ ht hi k (by omega);have hlt:dB l k (i+1)<l.length:=by
   rcases Nat.lt_or_ge (dB l k (i+1)) l.length with h|h
   · exact h
   · rw[List.drop_eq_nil_of_le h]at h2;obtain⟨q,hq⟩: ∃q,l[i].c.toNat-k=q+1:=⟨l[i].c.toNat-k-1,by omega⟩;rw[hq]at h2;cases h2
  obtain⟨a1,a2,a3⟩:=iB ht hlt;rw[fM];refine⟨a2,?_,by omega⟩;obtain⟨q,hq⟩: ∃q,l[i].c.toNat-k=1+q:=⟨l[i].c.toNat-k-1,by omega⟩;rw[hq,fJ,a3]at h2;grind
theorem lC (ht:IsTree l)(hi:i<l.length){k:Nat}(hk:k<l[i].c.toNat):dB l k (i+1)<l.length:=by
 obtain⟨h1,h2,_⟩:=gJ ht hi k (by omega);rcases Nat.lt_or_ge (dB l k (i+1)) l.length with h|h
 · exact h
 · rw[List.drop_eq_nil_of_le h]at h2;obtain⟨q,hq⟩: ∃q,l[i].c.toNat-k=q+1:=⟨l[i].c.toNat-k-1,by omega⟩;rw[hq]at h2;cases h2
def gN :Nat→List Nd→List Nat
 |_,[]=>[]
 |o,n::l=>if n.k=1 then o::gN (o+1) l else gN (o+1) l
def jC (l:List Nd):List Nat:=if dK l then gN 0 l else []
theorem lD : ∀(l:List Nd) (o:Nat),(gN o l).length=lv l
 |[],_=>rfl
 |n::l,o=>by
  rw[gN,lv];split
  · simp[lD l];omega
  · simp[lD l]
theorem qU : ∀(a b:List Nd) (o:Nat),gN o (a++b)=gN o a++gN (o+a.length) b
 |[],b,o=>by simp[gN]
 |n::a,b,o=>by
  simp only[List.cons_append,gN,qU a b,List.length_cons];grind
theorem aT1 (h:i<l.length):gN 0 (l.take (i+1))=gN 0 (l.take i)++(if l[i].k=1 then [i]else []):=by
 rw[List.take_succ_eq_append_getElem h,qU];have:(l.take i).length=i:=by simp;omega
 simp_all[Nat.zero_add,gN]
theorem aL7 (h:IsTree l):1≤lv l:=by
 have key: ∀(l:List Nd) (m:Nat),skip (m+1) l=some []→(∀n∈l,bR n=true)→1≤lv l:=by
  intro l;induction l with
  |nil=>intro m h;cases h
  |cons n l ih=>
   intro m h hn;have h':skip (m+n.c.toNat) l=some []:=h;obtain⟨c1,c2,c3,c4⟩:=dV (hn n List.mem_cons_self);rw[lv];split
   · omega
   · rename_i hk;have:=c4 hk;obtain⟨q,hq⟩: ∃q,m+n.c.toNat=q+1:=⟨m+n.c.toNat-1,by omega⟩;grind
 exact key l 0 h.skip h.node
def cnt (l:List Bool):Nat:=(l.filter id).length
theorem cE4 (l:List Bool):cnt l≤l.length:=List.length_filter_le _ _
theorem aL8 (l:List Bool):cnt l.reverse=cnt l:=by simp[cnt,List.filter_reverse]
def lE (n:Nd)(l:List Bool):Bool:=if n.k=2 then cnt l==l.length else if n.k=3 then decide (1≤cnt l)else decide (n.n≤cnt l)
def evS (T:Nat)(tr:List Bool):List Nd→List Bool
 |[]=>[]
 |n::l=>if n.k=1 then tr.getD (T-lv (n::l)) false::evS T tr l else lE n ((evS T tr l).take n.c.toNat)::(evS T tr l).drop n.c.toNat
theorem aE2 {T:Nat}{tr:List Bool}: ∀(l:List Nd) (m:Nat),(∀n∈l,bR n=true)→skip m l=some []→(evS T tr l).length=m
 |[],0,_,_=>rfl
 |[],m+1,_,h=>by cases h
 |n::l,0,_,h=>by grind[cU]
 |n::l,m+1,hn,h=>by
  have h':skip (m+n.c.toNat) l=some []:=h;have ih:=aE2 (T:=T) (tr:=tr) l _ (fun x hx=>hn x (List.mem_cons_of_mem _ hx)) h';obtain⟨c1,c2,c3,c4⟩:=dV (hn n List.mem_cons_self);grind[evS,List.length_cons,List.length_drop]
def wM (l:List Nd)(tr:List Bool):Bool:=dK l&&(evS (lv l) tr l).headD false
theorem aE3 (l:List Nd)(i:Nat):lv (l.take i)+lv (l.drop i)=lv l:=by rw[←sD,List.take_append_drop]
theorem bM9 (ht:IsTree l){tr:List Bool}(hi:i<l.length):l[i].c.toNat≤(evS (lv l) tr (l.drop (i+1))).length:=by
 obtain⟨k,hk⟩:=sF l 1 ht.skip ht.node i hi;rw[List.drop_eq_getElem_cons hi]at hk;have hk':skip (k+l[i].c.toNat) (l.drop (i+1))=some []:=hk;rw[aE2 _ _ (fun n hn=>ht.node n (List.mem_of_mem_drop hn)) hk'];omega
theorem tS (c:UInt8): ∀m:aH,aR c (m++[c])=aR c m++[[]]
 |[]=>by simp[aR]
 |b::m=>by
  have ih:=tS c m;simp only[List.cons_append];rw[aR,aR];by_cases h:b=c
  · grind
  · rw[if_neg h,if_neg h,ih];grind[aR,absurd,dD]
theorem nQ {c:UInt8}: ∀{l:aH},l≠[]→(aR c l).getLast (dD c l)=[]→ ∃m,l=m++[c]
 |[],h,_=>absurd rfl h
 |b::l,_,hl=>by
  by_cases h:b=c
  ·
   subst h;have hs:aR b (b::l)=[]::aR b l:=by rw[aR,if_pos rfl]
   cases l with
   |nil=>simp_all
   |cons d l=>
    have:(aR b (d::l)).getLast (dD b _)=[]:=by
     simp only[hs]at hl;rw[List.getLast_cons (dD b _)]at hl;exact hl
    obtain⟨m,hm⟩:=nQ (l:=d::l) (by simp) this;grind
  ·
   cases hs:aR c l with
   |nil=>exact absurd hs (dD c l)
   |cons x xs=>
    have hs2:aR c (b::l)=(b::x)::xs:=by rw[aR,if_neg h,hs]
    simp only[hs2]at hl;cases xs with
    |nil=>grind
    |cons y ys=>
     have hne:l≠[]:=by rintro rfl;simp[aR]at hs
     have:(aR c l).getLast (dD c l)=[]:=by
      simp only[hs];rw[List.getLast_cons (by simp)]at hl⊢;exact hl
     obtain⟨m,hm⟩:=nQ hne this;grind
def mJ (c:UInt8):List aH→aH
 |[]=>[]
 |w::l=>w++l.flatMap fun v=>c::v
theorem nR (c:UInt8): ∀l:aH,mJ c (aR c l)=l
 |[]=>rfl
 |b::l=>by
  have ih:=nR c l;rw[aR];cases hs:aR c l with
  |nil=>exact absurd hs (dD c l)
  |cons x xs=>
   grind[mJ]
theorem tT {c:UInt8}: ∀{w:aH},(∀b∈w,b≠c)→aR c w=[w]
 |[],_=>rfl
 |b::w,h=>by
  rw[aR,if_neg (h b List.mem_cons_self),tT fun x hx=>h x (List.mem_cons_of_mem _ hx)]
theorem wN {c:UInt8}{r:aH}: ∀{w:aH},(∀b∈w,b≠c)→aR c (w++c::r)=w::aR c r
 |[],_=>by simp only[List.nil_append];rw[aR,if_pos rfl]
 |b::w,h=>by
  simp only[List.cons_append];rw[aR,if_neg (h b List.mem_cons_self),wN fun x hx=>h x (List.mem_cons_of_mem _ hx)]
theorem nS {c:UInt8}: ∀{l:List aH},l≠[]→(∀w∈l,∀b∈w,b≠c)→aR c (mJ c l)=l
 |[],h,_=>absurd rfl h
 |[w],_,h=>by grind[mJ,tT,List.mem_cons_self]
 |w::v::l,_,h=>by
  have ih:=nS (c:=c) (l:=v::l) (by simp) fun x hx=>h x (List.mem_cons_of_mem _ hx);grind[mJ,wN,List.mem_cons_self]
theorem aT2 (c:UInt8)(m:aH):((aR c m).flatMap fun r=>r++[c])=m++[c]:=by
 have h:=nR c m;cases hs:aR c m with
 |nil=>exact absurd hs (dD c m)
 |cons x xs=>
  rw[hs]at h;simp only[mJ]at h;rw[←h];have key: ∀(x:aH) (xs:List aH),(List.flatMap (fun r=>r++[c]) (x::xs))=(x++xs.flatMap fun v=>c::v)++[c]:=by
   intro x xs;induction xs generalizing x with
   |nil=>simp
   |cons y ys ih=>
    grind
  grind
set_option maxRecDepth 20000 in
theorem aL9 {c:UInt8}(h:valH c<16):nF (valH c)=c:=by
 have key: ∀n:Fin 256,valH (UInt8.ofNat n.1)<16→nF (valH (UInt8.ofNat n.1))=UInt8.ofNat n.1:=by decide
 have:=key ⟨c.toNat,c.toNat_lt⟩;simp_all
set_option maxRecDepth 20000 in
theorem zP {n:Nat}(h:n<16):valH (nF n)=n:=by
 have key: ∀n:Fin 16,valH (nF n.1)=n.1:=by decide
 exact key ⟨n,h⟩
theorem bN0 {x y:UInt8}(h:okH x y=true):jA (byteH x y)=[37,x,y]:=by
 simp only[okH,Bool.and_eq_true,decide_eq_true_eq,Bool.not_eq_true']at h;obtain⟨⟨h1,h2⟩,h3⟩:=h;unfold jA;rw[h3,zB h1 h2];have e1:(16*valH x+valH y)/16=valH x:=by omega
 have e2:(16*valH x+valH y)%16=valH y:=by omega
 simp only[Bool.false_eq_true,if_false,e1,e2,aL9 h1,aL9 h2]
variable {c:UInt8}
theorem wO (h:cN c=true):jA c=[c]:=by unfold jA;grind
theorem aE4 : ∀(n:Nat) {s w:aH},s.length≤n→unB s=some w→cO w=s
 |0,s,w,hn,h=>by simp_all[List.eq_nil_of_length_eq_zero,unB,Option.some.injEq]
 |n+1,[],w,_,h=>by simp_all[unB,Option.some.injEq]
 |n+1,c::l,w,hn,h=>by
  simp only[List.length_cons]at hn;by_cases hp:cN c=true
  · rw[oN hp,Option.map_eq_some_iff]at h;obtain⟨w',h',rfl⟩:=h;have ih:=aE4 n (by omega) h';grind[cO,wO]
  ·
   have hp:cN c=false:=by simpa using hp
   by_cases hc:c=37
   ·
    subst hc
    match l,h with
    |[],h=>grind[uM]
    |[x],h=>grind[uM]
    |x::y::l',h=>
     by_cases ho:okH x y=true
     · rw[aD4 ho,Option.map_eq_some_iff]at h;obtain⟨w',h',rfl⟩:=h;have ih:=aE4 n (by grind) h';grind[cO,bN0]
     grind[tO]
   grind[uM]
variable {s:aH}
theorem bW8 {w:aH}(h:unW s=some w):gX w=s:=by
 unfold unW at h;split at h
 · rename_i hs;cases h;rw[hs];rfl
 ·
  split at h
  · cases h
  · rename_i h1 h2;have:=aE4 _ (Nat.le_refl _) h;unfold gX;rw[if_neg (cE1 h2 h),this]
theorem zQ : ∀w:aH,unB (cO w)=some w
 |[]=>rfl
 |c::w=>by
  have ih:=zQ w;have e:cO (c::w)=jA c++cO w:=by simp[cO]
  rw[e];by_cases hp:cN c=true
  · grind[wO,oN]
  ·
   have hp:cN c=false:=by simpa using hp
   have hlt:=c.toNat_lt;have h1:valH (nF (c.toNat/16))=c.toNat/16:=zP (by omega);have h2:valH (nF (c.toNat%16))=c.toNat%16:=zP (by omega);have hb:byteH (nF (c.toNat/16)) (nF (c.toNat%16))=c:=by
    unfold byteH;rw[h1,h2,Nat.div_add_mod];exact UInt8.ofNat_toNat
   have ho:okH (nF (c.toNat/16)) (nF (c.toNat%16))=true:=by
    simp only[okH,hb,hp,h1,h2,Bool.and_eq_true,decide_eq_true_eq,Bool.not_false,and_true];omega
   grind[jA,nF,aD4]
variable {b:UInt8}
theorem zR (h:b∈jA c):b≠10∧b≠32∧b≠126:=by
 unfold jA at h;split at h
 · rename_i hp;simp only[List.mem_singleton]at h;subst h;refine⟨?_,?_,?_⟩<;>(rintro rfl;revert hp;decide)
 ·
  have key: ∀n:Nat,nF n≠10∧nF n≠32∧nF n≠126:=by
   intro n;unfold nF;rcases Nat.lt_or_ge n 16 with hn|hn
   ·
    have: ∀n:Fin 16,([48,49,50,51,52,53,54,55,56,57,65,66,67,68,69,70]:List UInt8).getD n.1 0≠10∧([48,49,50,51,52,53,54,55,56,57,65,66,67,68,69,70]:List UInt8).getD n.1 0≠32∧([48,49,50,51,52,53,54,55,56,57,65,66,67,68,69,70]:List UInt8).getD n.1 0≠126:=by decide
    exact this ⟨n,hn⟩
   · simp_all
  grind
theorem sQ {w:aH}(h:b∈gX w):b≠10∧b≠32:=by
 unfold gX at h;split at h
 · grind
 · obtain⟨c,_,hc⟩:=List.mem_flatMap.1 h;grind[zR]
theorem bN1 (w:aH):unW (gX w)=some w:=by
 unfold gX;split
 · rename_i h;subst h;rfl
 ·
  rename_i h;have hne:cO w≠[]:=by
   intro he;have:=aJ7 w;rw[he]at this;exact h (List.eq_nil_of_length_eq_zero (by grind))
  have h126:cO w≠[126]:=by
   intro he;have hm:(126:UInt8)∈cO w:=by rw[he];simp
   obtain⟨c,_,hc⟩:=List.mem_flatMap.1 hm;exact(zR hc).2.2 rfl
  simp_all[unW,if_neg,zQ]
theorem sS {α β:Type}{f:α→Option β}: ∀{l:List α} {m:List β},l.mapM f=some m→(∀{g:β→α},(∀x y,f x=some y→g y=x)→m.map g=l)∧m.length=l.length
 |[],m,h=>by grind
 |a::l,m,h=>by
  rw[List.mapM_cons]at h;cases ha:f a with
  |none=>grind
  |some b=>
   rw[ha]at h;cases hl:l.mapM f with
   |none=>grind
   |some m'=>
    rw[hl]at h;cases h;obtain⟨h1,h2⟩:=sS hl;grind
theorem zS (l:List aH):gH l=mJ 32 (l.map gX):=by
 cases l with
 |nil=>rfl
 |cons w l=>simp[gH,mJ,List.flatMap_map]
theorem bW9 {r:aH}{ws:List aH}(h:unL r=some ws):gH ws=r:=by
 have:=(sS h).1 (g:=gX) fun x y h=>bW8 h;rw[zS,this,nR]
theorem zT : ∀l:List aH,(l.map gX).mapM unW=some l
 |[]=>rfl
 |w::l=>by rw[List.map_cons,List.mapM_cons,bN1,zT l];rfl
theorem bN2 {l:List aH}(h:l≠[]):unL (gH l)=some l:=by
 unfold unL;rw[zS,nS (by simp_all) (by
  intro w hw b hb;obtain⟨v,_,rfl⟩:=List.mem_map.1 hw;exact(sQ hb).2),zT]
theorem bE6 {l:List aH}(h:b∈gH l):b≠10:=by
 cases l with
 |nil=>simp at h
 |cons w l=>
  simp only[gH,List.mem_append,List.mem_flatMap]at h;rcases h with h|⟨v,_,h⟩
  · exact(sQ h).1
  · rcases List.mem_cons.1 h with rfl|h;all_goals grind[sQ]
variable {ls:List (List aH)}
theorem bE7 (h:ls≠[]):fK ls=mJ 10 (ls.map gH)++[10]:=by
 cases ls with
 |nil=>grind
 |cons l ls=>
  have key: ∀(l:List aH) (ls:List (List aH)),fK (l::ls)=mJ 10 ((l::ls).map gH)++[10]:=by
   intro l ls;induction ls generalizing l with
   |nil=>simp[fK,mJ,xU]
   |cons k ls ih=>
    grind[fK,xU,mJ]
  grind
theorem zU (m:aH):gI (m++[10])=(aR 10 m).mapM unR:=by simp_all[tS,gI,if_neg,if_pos,List.dropLast_concat]
theorem bE8 (h: ∀l∈ls,okL l=true):gI (fK ls)=some ls:=by
 by_cases hne:ls=[]
 · subst hne;simp[gI]
 ·
  rw[bE7 hne,zU,nS (by simpa using hne) (by
   intro w hw b hb;obtain⟨l,_,rfl⟩:=List.mem_map.1 hw;exact bE6 hb)]
  clear hne;induction ls with
  |nil=>rfl
  |cons l ls ih=>
   have hl:=h l List.mem_cons_self;have hr:unR (gH l)=some l:=by
    unfold unR;rw[bN2 ((kG l).1 hl).1];simp only[hl,if_true]
   rw[List.map_cons,List.mapM_cons,hr,ih fun x hx=>h x (List.mem_cons_of_mem _ hx)];rfl
variable {rs:List aH}
theorem bN3 (h:rs.mapM unL=some ls):rs.mapM unR=if ls.all okL then some ls else none:=by
 induction rs generalizing ls with
 |nil=>grind
 |cons r rs ih=>
  rw[List.mapM_cons]at h;cases hr:unL r with
  |none=>grind
  |some l=>
   rw[hr]at h;cases hl:rs.mapM unL with
   |none=>grind
   |some m=>
    rw[hl]at h;cases h;rw[List.mapM_cons,ih hl];unfold unR;rw[hr];simp only[List.all_cons];by_cases h1:okL l=true
    · grind
    grind
theorem xX (h:rs.mapM unL=none):rs.mapM unR=none:=by
 induction rs with
 |nil=>grind
 |cons r rs ih=>
  rw[List.mapM_cons]at h⊢;cases hr:unL r with
  |none=>unfold unR;grind
  |some l=>
   rw[hr]at h;have:rs.mapM unL=none:=by
    cases hl:rs.mapM unL with
    |none=>rfl
    |some m=>rw[hl]at h;cases h
   rw[ih this];cases unR r<;>rfl
theorem bE9 {m:aH}(h:(aR 10 m).mapM unL=some ls):fK ls=m++[10]:=by
 have h1:=(sS h).1 (g:=gH) fun x y h=>bW9 h;have h2:=aT2 10 m;rw[←h1]at h2;rw[←h2];simp only[fK,List.flatMap_map];rfl
@[simp] theorem cG9 (l:List W32)(i:Nat)(x:W32):CV.agg ((l.map w32).set i (w32 x))=ws (l.set i x):=by rw[←List.map_set];rfl
@[simp] theorem cH0 (l:List UInt8)(i:Nat)(x:UInt8):CV.agg ((l.map u8).set i (u8 x))=us (l.set i x):=by rw[←List.map_set];rfl
@[simp] theorem cL3 (b:List UInt8):wA b 0=wz 64:=rfl
@[simp] theorem cL4 (w:List W32):wB w 0=w:=rfl
def cM2 (s r:St)(j:Nat):List W32:=(s.l.zipWith (fun x y=>x+y) r.l).take j++s.l.drop j
@[simp] theorem cH1 (s r:St):cM2 s r 0=s.l:=rfl
section
variable {b:List UInt8}{j:Nat}(h0:64*j≤b.length)(h1:b.length<64*j+64)
include h0 h1
end
section
variable {b:List UInt8}{j:Nat}(h0:64*j≤b.length)(h1:b.length<64*j+64)
include h0 h1
end
@[simp] theorem cL5 (l:List UInt8):CV.agg (l.map u8)=us l:=rfl
def ob8 (s:St)(i:Nat):UInt8:=UInt8.ofNat ((gw s.l (i/4))>>>(24-8*(i%4))).toNat
def cM3 (s:St)(n:Nat):List UInt8:=itN (fun i l=>l.set i (ob8 s i)) n (uz 32)
@[simp] theorem cH2 (s:St):cM3 s 0=uz 32:=rfl
def cM4 (h:xT):aH:=cD9 h.1
def cM5 (d:Dig):aH:=[115,104,97,50,53,54,58]++cD9 d.1
theorem cJ (b:UInt8):iS [CV.int .u8 b.toNat]=some [b]:=bytesC_map [b]
def numW (n:Int):aH:=Lib.itoa n
theorem bF0 :numW 0=[48]:=by unfold numW Lib.itoa;rw[if_neg (by omega)];simp[Lib.decDigits]
theorem qV {n:Int}(h:0≤n):numW n=Lib.decDigits n.natAbs:=by unfold numW Lib.itoa;rw[if_neg (by omega)];congr 1;omega
theorem aM0 {n:Int}(h:n<0):numW n=45::Lib.decDigits n.natAbs:=by unfold numW Lib.itoa;rw[if_pos h]
theorem bN4 {v:Nat}(h:v≠0):Lib.decDigits v=(if v/10=0 then []else Lib.decDigits (v/10))++[UInt8.ofNat (48+v%10)]:=by
 by_cases h1:v<10
 · rw[Lib.decDigits,dif_pos h1,if_pos (by omega),show v%10=v by omega];rfl
 · rw[Lib.decDigits,dif_neg h1,if_neg (by omega)]
theorem aE5 {n:Int}(h:n<0)(h1: -9223372036854775808≤n):IntKind.u64.wrap (-(IntKind.u64.wrap n))=(n.natAbs:Int):=by
 have e:IntKind.u64.wrap n=n+18446744073709551616:=by
  have:IntKind.u64.wrap n=n%18446744073709551616:=by simp[IntKind.wrap,IntKind.bits,IntKind.signed]
  rw[this];omega
 rw[e];have: ∀m:Int,IntKind.u64.wrap m=m%18446744073709551616:=fun m=>by simp[IntKind.wrap,IntKind.bits,IntKind.signed]
 rw[this];omega
theorem aY6 {n:Int}(h:0≤n)(h1:n≤9223372036854775807):IntKind.u64.wrap n=(n.natAbs:Int):=by
 have:IntKind.u64.wrap n=n%18446744073709551616:=by simp[IntKind.wrap,IntKind.bits,IntKind.signed]
 rw[this];omega
theorem wP (v:Nat):IntKind.u8.wrap (IntKind.u64.wrap (48+Int.tmod (v:Int) 10))=((UInt8.ofNat (48+v%10)).toNat:Int):=by
 have h1:Int.tmod (v:Int) 10=((v%10:Nat):Int):=rfl;have h2:v%10<10:=Nat.mod_lt _ (by omega);rw[h1];generalize v%10=r at h2;rw[IntWalk.u64_in _ (by omega),IntWalk.u8_in _ (by omega),UInt8.toNat_ofNat',Nat.mod_eq_of_lt (by omega)];omega
theorem bX0 {v:Nat}(h:v<18446744073709551616):IntKind.u64.wrap (Int.tdiv (v:Int) 10)=((v/10:Nat):Int):=by
 rw[show Int.tdiv (v:Int) 10=((v/10:Nat):Int)from rfl,IntWalk.u64_in _ (by omega)]
theorem bN5 {u:Nat}(h:u<18446744073709551616):(Lib.decDigits u).length≤20:=by rw[Lib.decDigits_length];exact Lib.nDigits_le20 u h
inductive Av where
 |i (n:Int)
 |l (n:Int)
 |h (x:xT)
 |d (x:Dig)
 |s (w:aH)
def Av.w :Av→aH
 | .i n=>numW n
 | .l n=>numW n
 | .h x=>cM4 x
 | .d x=>cM5 x
 | .s w=>w
def Av.ok :Av→Prop
 | .i n=> -9223372036854775808≤n∧n≤9223372036854775807
 | .l n=> -9223372036854775808≤n∧n≤9223372036854775807
 |_=>True
def bX1 (c:UInt8):Nat:=if 48≤c.toNat∧c.toNat≤57 then c.toNat-48 else if 97≤c.toNat∧c.toNat≤102 then c.toNat-87 else 16
def hX (s:aH)(i:Nat):UInt8:=s.getD (2*i) 0
def hY (s:aH)(i:Nat):UInt8:=s.getD (2*i+1) 0
def hB (s:aH)(i:Nat):UInt8:=UInt8.ofNat (16*bX1 (hX s i)+bX1 (hY s i))
def hOk (s:aH)(i:Nat):Bool:=decide (bX1 (hX s i)<16)&&decide (bX1 (hY s i)<16)
def nT (s:aH)(n:Nat):Option (List UInt8):=if s.length=2*n∧(List.range n).all (hOk s)=true then some ((List.range n).map (hB s))else none
def UhSt (s:aH)(n i:Nat)(l:List UInt8):Prop:=l.length=n∧i≤n∧l.take i=(List.range i).map (hB s)∧ ∀j,j<i→hOk s j=true
variable {n:Nat}
theorem UhSt.init (s:aH){l:List UInt8}(h:l.length=n):UhSt s n 0 l:=⟨h,Nat.zero_le _,by simp,fun j hj=>by omega⟩
theorem UhSt.next {l:List UInt8}(h:UhSt s n i l)(hi:i<n)(hk:hOk s i=true):UhSt s n (i+1) (l.set i (hB s i)):=by
 obtain⟨h1,h2,h3,h4⟩:=h;refine⟨by simpa using h1,hi,?_,fun j hj=>?_⟩
 · rw[List.take_succ_eq_append_getElem (by rw[List.length_set];omega),List.getElem_set_self,List.take_set_of_le (Nat.le_refl _),h3,List.range_succ,List.map_append];rfl
 ·
  rcases Nat.lt_or_ge j i with h'|h'
  · exact h4 j h'
  ·
   have:j=i:=by omega
   rw[this];exact hk
theorem UhSt.fin {l:List UInt8}(h:UhSt s n n l)(hs:s.length=2*n):nT s n=some l:=by
 obtain⟨h1,h2,h3,h4⟩:=h;unfold nT;rw[if_pos ⟨hs,by rw[List.all_eq_true];intro j hj;exact h4 j (List.mem_range.1 hj)⟩,←h3,List.take_of_length_le (by omega)]
theorem UhSt.bad {l:List UInt8}(_:UhSt s n i l)(hi:i<n)(hk:hOk s i=false):nT s n=none:=by
 unfold nT;rw[if_neg];rintro⟨_,h⟩;have:=List.all_eq_true.1 h i (List.mem_range.2 hi);rw[hk]at this;cases this
theorem pC {l:List UInt8}(h:nT s n=some l):l.length=n:=by
 unfold nT at h;split at h
 · cases h;simp
 · cases h
def cJ2 (s p:aH):Bool:=decide (p.length≤s.length)&&(s.take p.length==p)
def cJ3 (s:aH):Option xT:=match h:nT s 16 with|some l=>some ⟨l,pC h⟩|none=>none
def cM6 :aH:=[115,104,97,50,53,54,58]
def cM7 (s:aH):Option Dig:=if cJ2 s cM6 then match h:nT (s.drop 7) 32 with|some l=>some ⟨l,pC h⟩|none=>none else none
def wd (l:List aH)(i:Nat):aH:=l.getD i []
theorem wQ {l:List aH}(h:i<l.length):nth (l.map CV.str) i= .str (wd l i):=by
 rw[bH h,wd,List.getD_eq_getElem?_getD,List.getElem?_eq_getElem h];rfl
def bN6 (l:List aH)(x:Rt):Option Rt:=
 if l.length=3 then match bN (wd l 2)with|some n=>some {x with q:=x.q++[⟨wd l 1,n⟩]}|none=>none else none
def cJ4 (l:List aH)(x:Rt):Option Rt:=
 if l.length<6 then none else match bN (wd l 1),cJ3 (wd l 2),bN (wd l 4),bN (wd l 5)with
  |some h,some r,some a,some b=>some {x with k:=x.k++[⟨⟨h,r⟩,wd l 3,l.drop 6,a,b⟩]}
  |_,_,_,_=>none
def cJ5 (l:List aH)(x:Rt):Option Rt:=
 if l.length=3 then match cM7 (wd l 1),bN (wd l 2)with|some d,some t=>some {x with x:=x.x++[⟨d,t⟩]}|_,_=>none else none
end Go.Pl
namespace Go.Hl
open Go Go.RowKit Go.Sort Go.Proofs
end Go.Hl
namespace Go.Pl
open Go Go.Hl
def rMid (r:Rt):Prop:=(r.q.length≤12∧ ∀q∈r.q,q.r.length≤300)∧(r.k.length≤32∧ ∀k∈r.k,k.o.length≤300∧k.rs.length≤30∧ ∀w∈k.rs,w.length≤300)∧r.x.length≤65
theorem rMid.sz {r:Rt}(h:rMid r):rSz r:=by
 obtain⟨⟨h1,h2⟩,⟨h3,h4⟩,h5⟩:=h;refine⟨⟨by omega,fun q hq=>by have:=h2 q hq;omega⟩,⟨by omega,fun k hk=>?_⟩,by omega⟩;obtain⟨k1,k2,k3⟩:=h4 k hk;exact⟨by omega,by omega,fun w hw=>by have:=k3 w hw;omega⟩
def aT3 (j:Nat):aH:=([[113,117,111,116,97],[107,101,121],[114,101,118,111,107,101,100]]:List aH).getD j []
def bF1 (j:Nat)(l:List aH)(x:Rt):Option Rt:=if j=0 then bN6 l x else if j=1 then cJ4 l x else cJ5 l x
def aM1 (j:Nat):List (List aH)→Rt→Option (List (List aH)×Rt)
 |[],x=>some ([],x)
 |l::ls,x=>if wd l 0=aT3 j then match bF1 j l x with|some y=>aM1 j ls y|none=>none else some (l::ls,x)
def sT :Nat→Nat→List (List aH)→Rt→Option (List (List aH)×Rt)
 |0,_,ls,x=>some (ls,x)
 |n+1,j,ls,x=>match aM1 j ls x with|some (ls',y)=>sT n (j+1) ls' y|none=>none
section
variable {l0:List aH}{ls:List (List aH)}{x:Rt}
end
variable {x:Rt}{ls:List (List aH)}{j:Nat}
theorem bN7 {l:List aH}{y:Rt}(h:wd l 0=aT3 j)(hy:bF1 j l x=some y):aM1 j (l::ls) x=aM1 j ls y:=by
 rw[aM1,if_pos h,hy]
theorem bF2 {l:List aH}(h:wd l 0≠aT3 j):aM1 j (l::ls) x=some (l::ls,x):=by
 rw[aM1,if_neg h]
variable {n:Nat}
theorem bN8 {l:List aH}{y:Rt}(h:wd l 0=aT3 j)(hy:bF1 j l x=some y):sT (n+1) j (l::ls) x=sT (n+1) j ls y:=by grind[sT,bN7]
theorem bF3 {l:List aH}(h:wd l 0≠aT3 j):sT (n+1) j (l::ls) x=sT n (j+1) (l::ls) x:=by
 simp only[sT,bF2 h]
theorem bN9 :sT (n+1) j [] x=sT n (j+1) [] x:=by
 simp only[sT,aM1]
def wOk (l:List aH):Prop:=l≠[]∧l.length≤120∧ ∀w∈l,w.length≤32768
variable {l:List aH}
theorem wOk.wd (h:wOk l)(i:Nat):(wd l i).length≤32768:=by
 unfold Pl.wd;rw[List.getD_eq_getElem?_getD];rcases Nat.lt_or_ge i l.length with h'|h'
 · rw[List.getElem?_eq_getElem h'];exact h.2.2 _ (List.getElem_mem h')
 grind
def rRead (m:Nat)(x:Rt):Prop:=x.q.length+x.k.length+x.x.length≤m∧(∀q∈x.q,q.r.length≤32768)∧ ∀k∈x.k,k.o.length≤32768∧k.rs.length≤120∧ ∀w∈k.rs,w.length≤32768
variable {m:Nat}
theorem bF4 {y:Rt}(hl:wOk l)(h:bF1 j l x=some y)(hx:rRead m x):rRead (m+1) y:=by
 obtain⟨h1,h2,h3⟩:=hx;unfold bF1 at h;split at h
 ·
  unfold bN6 at h;split at h
  ·
   split at h
   ·
    cases h;refine⟨by grind,fun q hq=>?_,h3⟩;rcases List.mem_append.1 hq with hq|hq
    · grind
    · simp only[List.mem_singleton]at hq;subst hq;exact hl.wd 1
   grind
  grind
 ·
  split at h
  ·
   unfold cJ4 at h;split at h
   · cases h
   ·
    split at h
    ·
     cases h;refine⟨by grind,h2,fun k hk=>?_⟩;rcases List.mem_append.1 hk with hk|hk
     · exact h3 k hk
     · simp only[List.mem_singleton]at hk;subst hk;exact⟨hl.wd 3,by show(l.drop 6).length≤120;rw[List.length_drop];have:=hl.2.1;omega,fun w hw=>hl.2.2 w (List.mem_of_mem_drop hw)⟩
    grind
  ·
   unfold cJ5 at h;split at h
   ·
    split at h
    · cases h;exact⟨by grind,h2,h3⟩
    grind
   grind
theorem rRead.sz (h:rRead m x)(hm:m≤100000):rSz x:=by
 obtain⟨h1,h2,h3⟩:=h;refine⟨⟨by omega,fun q hq=>by grind⟩,⟨by omega,fun k hk=>?_⟩,by omega⟩;obtain⟨k1,k2,k3⟩:=h3 k hk;exact⟨by omega,by omega,fun w hw=>by grind⟩
def RtSt (ls0:List (List aH))(x0:Rt)(j:Nat)(rest:List (List aH))(x:Rt):Prop:=
 j≤3∧sT 3 0 ls0 x0=sT (3-j) j rest x∧(∀l∈rest,wOk l)∧rest.length≤ls0.length∧rRead (ls0.length-rest.length) x
section
variable {ls0 rest:List (List aH)}{x0 x:Rt}{j:Nat}{l:List aH}
theorem RtSt.init (h: ∀l∈ls0,wOk l)(hx:rRead 0 x0):RtSt ls0 x0 0 ls0 x0:=⟨by omega,rfl,h,Nat.le_refl _,by grind⟩
theorem RtSt.hit {y:Rt}(h:RtSt ls0 x0 j (l::rest) x)(hj:j<3)(hw:wd l 0=aT3 j)(hy:bF1 j l x=some y):RtSt ls0 x0 j rest y:=by
 obtain⟨h1,h2,h3,h4,h5⟩:=h;obtain⟨n,hn⟩: ∃n,3-j=n+1:=⟨2-j,by omega⟩;simp only[List.length_cons]at h4 h5;refine⟨h1,by rw[h2,hn,bN8 hw hy],fun l hl=>h3 l (List.mem_cons_of_mem _ hl),by omega,?_⟩;have:=bF4 (h3 l List.mem_cons_self) hy h5;grind
theorem RtSt.next (h:RtSt ls0 x0 j rest x)(hj:j<3)(hw: ∀l ls,rest=l::ls→wd l 0≠aT3 j):RtSt ls0 x0 (j+1) rest x:=by
 obtain⟨h1,h2,h3,h4,h5⟩:=h;obtain⟨n,hn⟩: ∃n,3-j=n+1:=⟨2-j,by omega⟩;have hn2:3-(j+1)=n:=by omega
 refine⟨by omega,?_,h3,h4,h5⟩;rw[h2,hn,hn2];cases rest with
 |nil=>exact bN9
 |cons l ls=>exact bF3 (hw l ls rfl)
theorem RtSt.fin (h:RtSt ls0 x0 3 rest x):sT 3 0 ls0 x0=some (rest,x):=by rw[h.2.1];rfl
end
variable {b:aH}
theorem bX2 : ∀l∈fT b,wOk l:=by
 intro l hl;unfold fT at hl;split at hl
 ·
  cases hv:gI b with
  |none=>grind
  |some ls=>
   rw[hv]at hl;simp only[Option.getD_some]at hl;unfold gI at hv;split at hv
   · grind
   ·
    split at hv
    ·
     have key: ∀{rs:List aH} {ls:List (List aH)},rs.mapM unR=some ls→ ∀l∈ls,okL l=true:=by
      intro rs;induction rs with
      |nil=>grind
      |cons r rs ih=>
       intro ls h l hl;rw[List.mapM_cons]at h;cases hr:unR r with
       |none=>grind
       |some a=>
        rw[hr]at h;cases hm:rs.mapM unR with
        |none=>grind
        |some m=>
         rw[hm]at h;cases h;rcases List.mem_cons.1 hl with rfl|hl
         ·
          unfold unR at hr;split at hr
          ·
           split at hr
           · rename_i hk;cases hr;exact hk
           · cases hr
          · cases hr
         · exact ih hm l hl
     exact(kG l).1 (key hv l hl)
    grind
 grind
theorem bO0 :(fT b).length≤1000:=by
 unfold fT;split
 · grind[iT,gI]
 · simp
theorem fZ :sC=1099511627776:=rfl
end Go.Pl
