/- Plain Lean: the last blocks of SHA-256's input, and its output bytes. By an AI agent. -/
import Derived.Test.YtlldglbooaefhaaGreatDoorHzU1
import Derived.Test.YtlldglbooaefhaaGreatDoorHlTlaw
import Derived.Test.YtlldglbooaefhaaGreatDoorHlIt
import Derived.Test.YtlldglbooaefhaaGreatDoorHlZb
set_option linter.unusedSimpArgs false
set_option linter.unusedVariables false
set_option linter.defProp false
namespace Go.Proofs.YtlldglbooaefhaaGreatDoor
open Go Go.Hl Go.Pl
set_option maxRecDepth 10000
set_option maxHeartbeats 16000000
theorem aK8 (l:List aH)(hl:l.length<2^40):bV Tryz.prog 79 [.slc (l.map .str)] (fun v=>v= .int .i64 (rJ l)):=by
 refine FW Tryz.func79 ?_;refine R0 ?_;refine aC fun K hK=>?_;refine aL ?_;refine aC fun K hK=>Rg ?_;iterate 4 refine S0 ?_
 refine T2 (hK _ _ _ ?_);clear hK K;refine aJ (b:=(l.length:Int)==0) rfl (fun hb=>?_) (fun hb=>?_)
 · refine R0 ?_;refine aF (RT Tryz.results79 ?_);exact aG [] (.int .i64 1) rfl (by rw[rJ,if_pos (by simp at hb;simp[hb])])
 have hn0:l.length≠0:=by simp at hb;simp[hb]
 clear hb;refine aC fun K hK=>Rg ?_;iterate 4 refine S0 ?_
 refine T2 (hK _ _ _ ?_);clear hK K;refine aJ (b:=decide ((120:Int)<l.length)) rfl (fun hb=>?_) (fun hb=>?_)
 · refine R0 ?_;refine aF (RT Tryz.results79 ?_);exact aG [] (.int .i64 3) rfl (by rw[rJ,if_neg hn0,if_pos (by simp at hb;omega)])
 refine aK ?_;refine T0 (hK _ _ _ ?_);clear hK K;refine aC fun K hK=>?_;have hn1:l.length≤120:=by simp at hb;omega
 clear hb;refine R0 ?_;refine aL ?_;refine bF (α:={i:Nat//i≤l.length∧ ∀x∈l.take i,decide (32768<x.length)=false}) (fun i=>(fin [(13,.c (.slc (l.map .str))),(14,.c (.int .i64 l.length)),(15,.c (.int .i64 i.1))],fob [])) 100 (fun i=>l.length-i.1) ⟨0,by omega,by simp⟩ (fF) ?_;rintro⟨i,hi,h0⟩;refine R0 ?_;refine aC fun K hK=>?_;refine aJ (b:=decide ((i:Int)<l.length)) rfl (fun hb=>?_) (fun hb=>?_)
 ·
  have hlt:i<l.length:=by simpa using hb
  clear hb;refine aK ?_;refine T0 (hK _ _ _ ?_);clear hK K;refine aC fun K hK=>?_;refine aL ?_;have F:=aI @Int.natCast_nonneg (aI @Int.ofNat_lt (aI hlt (nM hlt)));refine RF ?_;refine R0 ?_;refine aJ (b:=decide ((32768:Int)<l[i].length)) rfl (fun hb=>?_) (fun hb=>?_)
  · refine R0 ?_;refine aF (RT Tryz.results79 ?_);exact aG [] (.int .i64 3) rfl (by rw[rJ,if_neg hn0,if_neg (by omega),if_pos];simp only[List.any_eq_true,decide_eq_true_eq];exact⟨_,List.getElem_mem hlt,by simp at hb;omega⟩)
  refine aK ?_;refine T0 (hK _ _ _ ?_);clear hK K;refine aM (by kernel_rfl) ?_;refine TQ (jP i) ?_;have hb2:decide (32768<l[i].length)=false:=by simp at hb⊢;omega
  refine⟨⟨i+1,hlt,rR (p:=fun x=>decide (32768<x.length)) hlt hb2 h0⟩,fF,?_⟩;show l.length-(i+1)<l.length-i;omega
 refine bA (T3 ?_);clear hK K;refine AX (hK _ _ _ ?_);clear hK K;refine R0 ?_;refine aF (RT Tryz.results79 ?_);have hei:i=l.length:=by simp at hb;omega
 subst hei;rw[List.take_length]at h0;exact aG [] (.int .i64 0) rfl (by rw[rJ,if_neg hn0,if_neg (by omega),if_neg];simp only[List.any_eq_true,not_exists,not_and];intro x hx;simp[h0 x hx])
theorem cD5 (ls:List (List aH))(h0:ls.length<2^40)(h1: ∀l∈ls,l.length<2^40):lK Tryz.prog 53 [.slc (ls.map fun l=> .slc (l.map .str))] (fun u v=>u= .slc ((pS ls).map eA)∧v= .int .i64 (lJ ls)):=by
 refine FW Tryz.func53 ?_;refine R0 ?_;refine aC fun K hK=>?_;refine R0 ?_;refine aJ (b:=decide ((1000:Int)<ls.length)) rfl (fun hb=>?_) (fun hb=>?_)
 · refine R0 ?_;refine aF (RT Tryz.results53 ?_);have hE:=bC6 (ls:=ls) (by simp at hb;omega);refine bD [] (.slc []) (.int .i64 3) ?_ ⟨by rw[vO (by rw[hE];decide)];rfl,by rw[hE]⟩;simp[HV.close,HV.closeL,CV.denil,CV.denilL,HV.norm,HV.toC,HV.toCL]
 refine aK ?_;refine T0 (hK _ _ _ ?_);clear hK K;refine aC fun K hK=>?_;have hn:ls.length≤1000:=by simp at hb;omega
 clear hb;refine R0 ?_;refine aL ?_;refine bF (α:={i:Nat//i≤ls.length∧ ∀x∈ls.take i,okL x=true}) (fun i=>(fin [(0,.c (.slc (ls.map fun l=> .slc (l.map .str)))),(20,.c (.slc (ls.map fun l=> .slc (l.map .str)))),(21,.c (.int .i64 ls.length)),(22,.c (.int .i64 i.1))],fob [])) 100 (fun i=>ls.length-i.1) ⟨0,by omega,by simp⟩ (fF) ?_;rintro⟨i,hi,hk⟩;refine R0 ?_;refine aC fun K hK=>?_;refine aJ (b:=decide ((i:Int)<ls.length)) rfl (fun hb=>?_) (fun hb=>?_)
 ·
  have hlt:i<ls.length:=by simpa using hb
  clear hb;have hl1:=h1 ls[i] (List.getElem_mem hlt);refine aK ?_;refine T0 (hK _ _ _ ?_);clear hK K;refine aC fun K hK=>?_;refine aL ?_;have F:=aI @Int.natCast_nonneg (aI @Int.ofNat_lt (aI hlt (nM hlt)));refine RF ?_;refine aC fun K hK=>Rg ?_;refine S0 ?_;refine HS rfl rfl fun K' hK'=>T5 ?_;refine C1 (aK8 ls[i] hl1) ?_;rintro u rfl;refine AX (hK' _ _ ?_);clear hK' K';refine S0 ?_;refine T2 (hK _ _ _ ?_);clear hK K;refine R0 ?_;refine aJ (b:=rJ ls[i] !=0) rfl (fun hb=>?_) (fun hb=>?_)
  · refine R0 ?_;refine aF (RT Tryz.results53 ?_);have hE:=bJ4 hn hlt hk (by simpa[okL]using hb);refine bD [] (.slc []) (.int .i64 (rJ ls[i])) ?_ ⟨by rw[vO (by rw[hE];simpa using hb)];rfl,by rw[hE]⟩;simp[HV.close,HV.closeL,CV.denil,CV.denilL,HV.norm,HV.toC,HV.toCL]
  refine aK ?_;refine T0 (hK _ _ _ ?_);clear hK K;refine aM (by kernel_rfl) ?_;refine TQ (jP i) ?_;refine⟨⟨i+1,hlt,?_⟩,fF,?_⟩
  ·
   intro x hx;rw[List.take_succ_eq_append_getElem hlt,List.mem_append,List.mem_singleton]at hx;rcases hx with hx|rfl
   · exact hk x hx
   simpa[okL]using hb
  show ls.length-(i+1)<ls.length-i;omega
 have hei:i=ls.length:=by simp at hb;omega
 subst hei;clear hb;rw[List.take_length]at hk;have hne: ∀l∈ls,l≠[]:=fun l hl=>((nY l).1 (hk l hl)).1;have hsd:=bU1 hk;have hdl:=vN hne;have hE:=aW7 hn hk;have hst: ∀j,sumD (ls.take j)≤sumD ls:=fun j=>aC4 ls j;have hdt: ∀j,(gT (ls.take j)).length≤sumD ls:=fun j=>by rw[vN fun l hl=>hne l (List.mem_of_mem_take hl)];exact hst j
 refine bA (T3 ?_);clear hK K;refine AX (hK _ _ _ ?_);clear hK K;refine R0 ?_;refine aC fun K hK=>?_;refine R0 ?_;refine aL ?_;refine bF (α:={i:Nat//i≤ls.length}) (fun i=>(fin [(0,.c (.slc (ls.map fun l=> .slc (l.map .str)))),(7,.c (.int .i64 (sumD (ls.take i.1):Nat))),(32,.c (.slc (ls.map fun l=> .slc (l.map .str)))),(33,.c (.int .i64 ls.length)),(34,.c (.int .i64 i.1))],fob [])) 200 (fun i=>ls.length-i.1) ⟨0,by omega⟩ (fF) ?_;rintro⟨i,hi⟩;refine R0 ?_;refine aC fun K hK=>?_;refine aJ (b:=decide ((i:Int)<ls.length)) rfl (fun hb=>?_) (fun hb=>?_)
 ·
  have hlt:i<ls.length:=by simpa using hb
  clear hb;have hst1:=bC5 hlt;have hst2:=hst (i+1);obtain⟨l,hl⟩: ∃l,l=ls[i]:=⟨_,rfl⟩;obtain⟨hl0,hl1,hl2⟩:=(nY l).1 (hk l (by rw[hl];exact List.getElem_mem hlt));have hln:nth (ls.map fun l=>CV.slc (l.map .str)) i= .slc (l.map .str):=by rw[bR hlt,hl]
  rw[←hl]at hst1;refine aK ?_;refine T0 (hK _ _ _ ?_);clear hK K;refine aC fun K hK=>?_;refine aL ?_;have F:=aI @Int.natCast_nonneg (aI @Int.ofNat_lt (aI hlt hln));refine RF ?_;refine R0 ?_;refine aL ?_;refine bF (α:={i:Nat//i≤l.length}) (fun k=>(fin [(0,.c (.slc (ls.map fun l=> .slc (l.map .str)))),(7,.c (.int .i64 (sumD (ls.take i)+iQ (l.take k.1):Nat))),(32,.c (.slc (ls.map fun l=> .slc (l.map .str)))),(33,.c (.int .i64 ls.length)),(34,.c (.int .i64 i)),(38,.c (.slc (l.map .str))),(39,.c (.int .i64 l.length)),(40,.c (.int .i64 k.1))],fob [])) 300 (fun k=>l.length-k.1) ⟨0,by omega⟩ (fF) ?_;rintro⟨k,hk'⟩;refine R0 ?_;refine aC fun K hK=>?_;refine aJ (b:=decide ((k:Int)<l.length)) rfl (fun hb=>?_) (fun hb=>?_)
  ·
   have hlk:k<l.length:=by simpa using hb
   clear hb;have hlt1:=bC4 hlk;have hlt2:=pR l (k+1);have hw2:=hl2 l[k] (List.getElem_mem hlk);refine aK ?_;refine T0 (hK _ _ _ ?_);clear hK K;refine aC fun K hK=>?_;refine aL ?_;have F:=aI @Int.natCast_nonneg (aI @Int.ofNat_lt (aI hlk (nM hlk)));refine RF ?_;refine Rg ?_;have F:=aI (IntWalk.i64_in _ (show-9223372036854775808≤((sizeW l[k]:Nat):Int)+1∧((sizeW l[k]:Nat):Int)+1≤9223372036854775807 by omega)) (IntWalk.i64_in _ (show-9223372036854775808≤((sumD (ls.take i)+iQ (l.take k):Nat):Int)+(((sizeW l[k]:Nat):Int)+1)∧((sumD (ls.take i)+iQ (l.take k):Nat):Int)+(((sizeW l[k]:Nat):Int)+1)≤9223372036854775807 by omega));iterate 2 refine SF ?_
   refine HS rfl rfl fun K' hK'=>T6 ?_;refine C1 (aX7 l[k] (by omega)) ?_;rintro u rfl;refine AX (hK' _ _ ?_);clear hK' K';iterate 3 refine SF ?_
   refine T2 (hK _ _ _ ?_);clear hK K;refine aM (by kernel_rfl) ?_;refine TQ (jP k) ?_;have he:((sumD (ls.take i)+iQ (l.take k):Nat):Int)+(((sizeW l[k]:Nat):Int)+1)=((sumD (ls.take i)+iQ (l.take (k+1)):Nat):Int):=by omega
   simp only[he];refine⟨⟨k+1,hlk⟩,fF,?_⟩;show l.length-(k+1)<l.length-k;omega
  have hek:k=l.length:=by simp at hb;omega
  subst hek;clear hb;refine bA (T3 ?_);clear hK K;refine AX (hK _ _ _ ?_);clear hK K;refine aM (by kernel_rfl) ?_;refine TQ (jP i) ?_;have he:((sumD (ls.take i)+iQ (l.take l.length):Nat):Int)=((sumD (ls.take (i+1)):Nat):Int):=by rw[List.take_length];omega
  simp only[he];refine⟨⟨i+1,hlt⟩,fF,?_⟩;show ls.length-(i+1)<ls.length-i;omega
 have hei:i=ls.length:=by simp at hb;omega
 subst hei;clear hb;refine bA (T3 ?_);clear hK K;refine AX (hK _ _ _ ?_);clear hK K;refine aC fun K hK=>?_;have F:=@List.take_length.{0};refine RF ?_;refine aJ (b:=decide ((262144:Int)<(sumD ls:Nat))) rfl (fun hb=>?_) (fun hb=>?_)
 · refine R0 ?_;refine aF (RT Tryz.results53 ?_);rw[if_pos (by rw[hdl];simp at hb;omega)]at hE;refine bD [] (.slc []) (.int .i64 3) ?_ ⟨by rw[vO (by rw[hE];decide)];rfl,by rw[hE]⟩;simp[HV.close,HV.closeL,CV.denil,CV.denilL,HV.norm,HV.toC,HV.toCL]
 refine aK ?_;refine T0 (hK _ _ _ ?_);clear hK K;have hle:sumD ls≤262144:=by simp at hb;omega
 have hz:((sumD ls:Nat):Int)≤140737488355328:=by omega
 clear hb;rw[if_neg (by rw[hdl];omega)]at hE;have hO:=aC5 hE;have F:=aI @Int.natCast_nonneg (aI hz (aI @Int.mul_one @List.take_length.{0}));refine RF ?_;refine aC fun K hK=>?_;refine R0 ?_;refine aL ?_;refine bF (α:={i:Nat//i≤ls.length}) (fun i=>(fin [(12,.own 216 (gT (ls.take i.1)).length),(55,.c (.slc (ls.map fun l=> .slc (l.map .str)))),(56,.c (.int .i64 ls.length)),(57,.c (.int .i64 i.1))],fob [(216,.row 5 1 ((gT (ls.take i.1)).map eA))])) 400 (fun i=>ls.length-i.1) ⟨0,by omega⟩ (fF) ?_;rintro⟨i,hi⟩;refine R0 ?_;refine aC fun K hK=>?_;refine aJ (b:=decide ((i:Int)<ls.length)) rfl (fun hb=>?_) (fun hb=>?_)
 ·
  have hlt:i<ls.length:=by simpa using hb
  clear hb;have hdt1:=bC3 hlt;have hdt0:=hdt i;obtain⟨l,hl⟩: ∃l,l=ls[i]:=⟨_,rfl⟩;have hok:=hk l (by rw[hl];exact List.getElem_mem hlt);have hsl:=aW6 hok;obtain⟨hl0,hl1,hl2⟩:=(nY l).1 hok;have hln:nth (ls.map fun l=>CV.slc (l.map .str)) i= .slc (l.map .str):=by rw[bR hlt,hl]
  rw[←hl]at hdt1;refine aK ?_;refine T0 (hK _ _ _ ?_);clear hK K;refine aC fun K hK=>?_;refine aL ?_;have F:=aI @Int.natCast_nonneg (aI @Int.ofNat_lt (aI hlt hln));refine RF ?_;refine aC fun K hK=>?_;refine R0 ?_;refine aL ?_;refine bF (α:={i:Nat//i≤l.length}) (fun k=>(fin [(12,.own 216 (gT (ls.take i)++iB (l.take k.1)).length),(55,.c (.slc (ls.map fun l=> .slc (l.map .str)))),(56,.c (.int .i64 ls.length)),(57,.c (.int .i64 i)),(61,.c (.slc (l.map .str))),(62,.c (.int .i64 l.length)),(63,.c (.int .i64 k.1))],fob [(216,.row 5 1 ((gT (ls.take i)++iB (l.take k.1)).map eA))])) 500 (fun k=>l.length-k.1) ⟨0,by omega⟩ (fF) ?_;rintro⟨k,hk'⟩;have hsw:=bU0 (l.take k);have hst2:=pR l k;refine R0 ?_;refine aC fun K hK=>?_;refine aJ (b:=decide ((k:Int)<l.length)) rfl (fun hb=>?_) (fun hb=>?_)
  ·
   have hlk:k<l.length:=by simpa using hb
   clear hb;have hw2:=hl2 l[k] (List.getElem_mem hlk);have hel:=vL l[k];have hsz:=vM l[k];have hsp:=bB9 l[k];have hpe:0<(jM l[k]).length:=by omega
   have htk:=bC2 hlk;have hbe:(gT (ls.take i)).length+(iB (l.take k)).length+(jM l[k]).length≤140737488355328:=by omega
   have hbe1:(gT (ls.take i)).length+(iB (l.take k)).length+1+(jM l[k]).length≤140737488355328:=by omega
   refine aK ?_;refine T0 (hK _ _ _ ?_);clear hK K;refine aC fun K hK=>?_;refine aL ?_;refine aC fun K hK=>Rg ?_;have F:=aI @Int.natCast_nonneg (aI @Int.ofNat_lt (aI hlk (nM hlk)));iterate 5 refine SF ?_
   refine T2 (hK _ _ _ ?_);clear hK K;refine aC fun K hK=>?_;refine R0 ?_;refine aJ (b:=decide ((0:Int)<k)) rfl (fun hb=>?_) (fun hb=>?_)
   ·
    refine Rg ?_;have F:=aI @List.length_append.{0} @List.length_map.{0,0};iterate 4 refine SF ?_
    refine T2 (hK _ _ _ ?_);clear hK K;refine Rg ?_;have F:=aI @List.length_append.{0} (aI @List.length_map.{0,0} (aI hpe (aI hbe hbe1)));iterate 2 refine SF ?_
    refine HS rfl rfl fun K' hK'=>T6 ?_;refine C1 (aX8 l[k] (by omega)) ?_;rintro u rfl;refine AX (hK' _ _ ?_);clear hK' K';iterate 2 refine SF ?_
    refine T2 (hK _ _ _ ?_);clear hK K;refine aM (by kernel_rfl) ?_;refine TQ (jP k) ?_;have hk0:k≠0:=by simp at hb;omega
    refine⟨⟨k+1,hlk⟩,aN (by omega) ?_ ?_,?_⟩
    · rw[htk,if_neg hk0];simp[aY,upd_at,fin_at,HV.men];omega
    · rw[htk,if_neg hk0];simp only[List.map_append,←List.append_assoc];exact⟨rfl,by omega,trivial,trivial⟩
    show l.length-(k+1)<l.length-k;omega
   refine aK ?_;refine T0 (hK _ _ _ ?_);clear hK K;refine Rg ?_;have F:=aI @List.length_append.{0} (aI @List.length_map.{0,0} (aI hpe (aI hbe hbe1)));iterate 2 refine SF ?_
   refine HS rfl rfl fun K' hK'=>T6 ?_;refine C1 (aX8 l[k] (by omega)) ?_;rintro u rfl;refine AX (hK' _ _ ?_);clear hK' K';iterate 2 refine SF ?_
   refine T2 (hK _ _ _ ?_);clear hK K;refine aM (by kernel_rfl) ?_;refine TQ (jP k) ?_;have hk0:k=0:=by simp at hb;omega
   refine⟨⟨k+1,hlk⟩,aN (by omega) ?_ ?_,?_⟩
   · rw[htk,if_pos hk0];simp[aY,upd_at,fin_at,HV.men];omega
   · rw[htk,if_pos hk0,List.nil_append];simp only[List.map_append,←List.append_assoc];exact⟨rfl,by omega,trivial,trivial⟩
   show l.length-(k+1)<l.length-k;omega
  have hek:k=l.length:=by simp at hb;omega
  subst hek;clear hb;rw[List.take_length]at*;refine bA (T3 ?_);clear hK K;refine AX (hK _ _ _ ?_);clear hK K;refine Rg ?_;have F:=aI @List.length_append.{0} @List.length_map.{0,0};iterate 4 refine SF ?_
  refine T2 (hK _ _ _ ?_);clear hK K;refine aM (by kernel_rfl) ?_;refine TQ (jP i) ?_;refine⟨⟨i+1,hlt⟩,aN (by omega) ?_ ?_,?_⟩
  · rw[hdt1,aI9];simp[aY,upd_at,fin_at,HV.men];omega
  · rw[hdt1,aI9];simp only[List.map_append,←List.append_assoc];exact⟨rfl,by omega,trivial,trivial⟩
  show ls.length-(i+1)<ls.length-i;omega
 refine bA (T3 ?_);clear hK K;refine AX (hK _ _ _ ?_);clear hK K;refine R0 ?_;refine aF (RT Tryz.results53 ?_);have hei:i=ls.length:=by simp at hb;omega
 subst hei;refine bD [216] (.slc ((gT ls).map eA)) (.int .i64 0) ?_ ⟨by rw[hO],by rw[hE]⟩;rw[List.take_length];simp[HV.close,fob_at,upd_at,HV.norm,HV.toC,HV.closeL,HV.toCL,List.take_of_length_le,CV.denil,dV]
theorem bU9 (v:CV):nth [v] 0=v:=rfl
theorem wE (c:UInt8):(u8 c).denil=u8 c:=rfl
theorem denilL_u8 : ∀bs:List UInt8,CV.denilL (bs.map u8)=bs.map u8
 |[]=>rfl
 |b::bs=>by simp only[List.map_cons,CV.denilL,denilL_u8 bs];rfl
theorem bV0 (l:List UInt8)(c:UInt8):bV Tryz.prog 142 [.slc (l.map u8),u8 c] (fun v=>v= .int .i64 (cX l c)):=
 cD3 (f:=142) (fn:=Tryz.f142) Tryz.func142 (by kernel_rfl) (by kernel_rfl) (by kernel_rfl) (by kernel_rfl) l c
theorem bL0 (l:List UInt8)(c:UInt8):bV Tryz.prog 141 [.str l,u8 c] (fun v=>v= .int .i64 (cX l c)):=
 bU3 (f:=141) (fn:=Tryz.f141) Tryz.func141 (by kernel_rfl) (by kernel_rfl) (by kernel_rfl) (by kernel_rfl) l c
theorem cD6 (l:List UInt8)(c:UInt8):bV Tryz.prog 122 [.slc (l.map u8),u8 c] (fun v=>v= .int .i64 (cX l c)):=by
 refine FW Tryz.func122 ?_;have F:=rI;refine RF ?_;refine aC fun K hK=>Rg ?_;have F:=aI rI (aI @denilL_u8 @wE);iterate 2 refine SF ?_
 refine HS rfl rfl fun K' hK'=>T6 ?_;refine C2 (bV0 l c) ?_;rintro u rfl;refine AX (hK' _ _ ?_);clear hK' K';refine SF ?_;simp only[sE,↓reduceIte,simprocAttr,rI];refine AX (hK _ _ _ ?_);clear hK K;refine aF ?_;simp only[gK,Tryz.results122,fL,gJ,eV,↓sP,sA,tyS,simprocAttr,rI];exact aG [] (.int .i64 (cX l c)) rfl rfl
theorem bL1 (l:List UInt8)(c:UInt8):bV Tryz.prog 121 [.str l,u8 c] (fun v=>v= .int .i64 (cX l c)):=by
 refine FW Tryz.func121 ?_;have F:=rI;refine RF ?_;refine aC fun K hK=>Rg ?_;have F:=aI rI (aI @denilL_u8 @wE);iterate 2 refine SF ?_
 refine HS rfl rfl fun K' hK'=>T6 ?_;refine C2 (bL0 l c) ?_;rintro u rfl;refine AX (hK' _ _ ?_);clear hK' K';refine SF ?_;simp only[sE,↓reduceIte,simprocAttr,rI];refine AX (hK _ _ _ ?_);clear hK K;refine aF ?_;simp only[gK,Tryz.results121,fL,gJ,eV,↓sP,sA,tyS,simprocAttr,rI];exact aG [] (.int .i64 (cX l c)) rfl rfl
theorem qA (l:List UInt8)(c:UInt8):bV Tryz.prog 104 [.str l,u8 c] (fun v=>v= .int .i64 (cX l c)):=by
 refine FW Tryz.func104 ?_;have F:=rI;refine RF ?_;refine aC fun K hK=>Rg ?_;have F:=aI rI (aI @denilL_u8 @wE);iterate 2 refine SF ?_
 refine HS rfl rfl fun K' hK'=>T6 ?_;refine C2 (bL1 l c) ?_;rintro u rfl;refine AX (hK' _ _ ?_);clear hK' K';refine SF ?_;simp only[sE,↓reduceIte,simprocAttr,rI];refine AX (hK _ _ _ ?_);clear hK K;refine aF ?_;simp only[gK,Tryz.results104,fL,gJ,eV,↓sP,sA,tyS,simprocAttr,rI];exact aG [] (.int .i64 (cX l c)) rfl rfl
theorem zA (l:List UInt8)(c:UInt8):bV Tryz.prog 105 [.slc (l.map u8),.slc [u8 c]] (fun v=>v= .int .i64 (cX l c)):=by
 refine FW Tryz.func105 ?_;have F:=rI;refine RF ?_;refine RF ?_;refine aC fun K hK=>?_;refine aL ?_;refine RF ?_;refine aJ (b:=(1:Int)==0) rfl (fun hb=>?_) (fun hb=>?_)
 · exact absurd hb (by decide)
 refine RF ?_;refine aJ (b:=(1:Int)==1) rfl (fun hb=>?_) (fun hb=>?_)
 ·
  refine aC fun K hK=>Rg ?_;have F:=aI rI (aI @u8.eq_1 (aI @bU9 @denilL_u8));iterate 4 refine SF ?_
  refine HS rfl rfl fun K' hK'=>T6 ?_;refine C2 (cD6 l c) ?_;rintro u rfl;refine AX (hK' _ _ ?_);clear hK' K';refine SF ?_;simp only[sE,↓reduceIte,simprocAttr,rI];refine AX (hK _ _ _ ?_);clear hK K;refine aF ?_;simp only[gK,Tryz.results105,fL,gJ,eV,↓sP,sA,tyS,simprocAttr,rI];exact aG [] (.int .i64 (cX l c)) rfl rfl
 exact absurd hb (by decide)
theorem bV1 (l:List UInt8)(c:UInt8)(hl:l.length<2^40):aC8 Tryz.prog 85 [.slc (l.map u8),.slc [u8 c]] (fun x y f=> ∃(li re:List UInt8) (fd:Bool),x= .slc (li.map u8)∧y= .slc (re.map u8)∧f= .bool fd∧CutR l c li re fd):=by
 refine FW Tryz.func85 ?_;have F:=rI;refine RF ?_;refine aC fun K hK=>?_;refine aC fun K hK=>Rg ?_;have F:=aI rI @denilL_u8;iterate 2 refine SF ?_
 refine HS rfl rfl fun K' hK'=>T6 ?_;refine C2 (zA l c) ?_;rintro u rfl;refine AX (hK' _ _ ?_);clear hK' K';refine SF ?_;simp only[sE,↓reduceIte,simprocAttr,rI];refine AX (hK _ _ _ ?_);clear hK K;have F:=rI;refine RF ?_;refine aJ (b:=decide ((0:Int)≤cX l c)) rfl (fun hb=>?_) (fun hb=>?_)
 ·
  have hn: ¬cX l c<0:=by simp at hb;omega
  obtain⟨i,hi,hil,hsp⟩:=dJ hn;have hi':=hi;rw[hi];refine aC fun K hK=>QR ?_;have F:=aI rI (aI @Int.natCast_nonneg (aI @Int.ofNat_le (aI @Int.sub_zero (aI @Nat.sub_zero (aI @List.drop_zero.{0} (aI @mT (aI @denilL_u8 (aI @List.length_map.{0,0} (show IntKind.i64.wrap ((i:Int)+1)=((i+1:Nat):Int)from by rw[IntWalk.i64_in _ (by omega)];rfl)))))))));iterate 12 refine SF ?_
  simp only[sE,↓reduceIte,simprocAttr,rI];refine AX (hK _ _ _ ?_);clear hK K;refine aF ?_;simp only[gK,Tryz.results85,fL,gJ,eV,↓sP,sA,tyS,simprocAttr,rI];refine jC [] (.slc ((l.take i).map u8)) (.slc ((l.drop (i+1)).map u8)) (.bool true) ?_ ⟨_,_,_,rfl,rfl,rfl,.inr ⟨rfl,i,hi,hil,rfl,rfl⟩⟩;simp[HV.close,HV.closeL,HV.norm,HV.toC,HV.toCL,CV.denil,denilL_u8];exact⟨by rw[←List.map_take,denilL_u8],by rw[←List.map_drop,←List.map_take,denilL_u8,List.take_of_length_le (by simp)]⟩
 have hn:cX l c<0:=by simp at hb;omega
 refine aK ?_;refine TQ rI ?_;refine AX (hK _ _ _ ?_);clear hK K;refine aC fun K hK=>Rg ?_;iterate 4 refine SF ?_
 simp only[sE,↓reduceIte,simprocAttr,rI];refine AX (hK _ _ _ ?_);clear hK K;refine aF ?_;simp only[gK,Tryz.results85,fL,gJ,eV,↓sP,sA,tyS,simprocAttr,rI];refine jC [] (.slc (l.map u8)) (.slc []) (.bool false) ?_ ⟨l,[],false,rfl,rfl,rfl,.inl ⟨rfl,hn,rfl,rfl⟩⟩;simp[HV.close,HV.closeL,HV.norm,HV.toC,HV.toCL,CV.denil,denilL_u8]
theorem bV2 (l:List UInt8)(c:UInt8):aX5 Tryz.prog 106 126 [.slc (l.map u8),.slc [u8 c],.int .i64 0] [(47,.slc [u8 c]),(47,.slc (l.map u8)),(3,.int .i64 0)]:=by
 refine FW Tryz.func106 ?_;refine aC fun K hK=>Rg ?_;have F:=rI;iterate 4 refine SF ?_
 simp only[sE,↓reduceIte,simprocAttr,rI];refine AX (hK _ _ _ ?_);clear hK K;refine RF ?_;refine aF ?_;simp only[gK,Tryz.results106,fL,gJ,eV,↓sP,sA,tyS,simprocAttr,rI];refine rQ (gf:=126) (bs:=[(47,.slc [u8 c]),(47,.slc (l.map u8)),(3,.int .i64 0)]) (ids:=[4,0,8]) rfl (by simp) (by decide) ?_ ?_
 ·
  intro j x hx
  match j,hx with
  |0,hx=>cases hx;rfl
  |1,hx=>cases hx;rfl
  |2,hx=>cases hx;rfl
 intro x hx;simp only[List.mem_cons,List.not_mem_nil,or_false]at hx;rcases hx with rfl|rfl|rfl
 · rfl
 · exact congrArg CV.slc (denilL_u8 l)
 rfl
theorem bD8 (l:List UInt8)(c:UInt8):aX5 Tryz.prog 86 126 [.slc (l.map u8),.slc [u8 c]] [(47,.slc [u8 c]),(47,.slc (l.map u8)),(3,.int .i64 0)]:=by
 refine FW Tryz.func86 ?_;have F:=rI;refine RF ?_;refine aC fun K hK=>Rg ?_;iterate 2 refine S0 ?_ (e:=fun _ h_=>by simp only[sH,↓sP,sA,tyS,simprocAttr,rI,denilL_u8,lY,gM,List.range',List.map_cons,List.map_nil];exact AX h_)
 refine HS rfl rfl fun K' hK'=>?_;simp only[sH,↓sP,sA,tyS,simprocAttr,rI,denilL_u8,lY,gM,List.range',List.map_cons,List.map_nil];refine rP (args:=[_,_,_]) (bV2 l c) (by simp) ⟨rfl,rfl,rfl,rfl⟩ ?_;refine AX (hK' _ _ ?_);clear hK' K';refine S0 ?_ (e:=fun _ h_=>by simp only[sH,↓sP,sA,tyS,simprocAttr,rI,denilL_u8,lY,gM,List.range',List.map_cons,List.map_nil];exact AX h_);simp only[sE,↓reduceIte,simprocAttr,rI];refine AX (hK _ _ _ ?_);clear hK K;refine aF ?_;simp only[gK,Tryz.results86,fL,gJ,eV,↓sP,sA,tyS,simprocAttr,rI];refine rQ (gf:=126) (bs:=[(47,.slc [u8 c]),(47,.slc (l.map u8)),(3,.int .i64 0)]) (ids:=[12,13,14]) rfl (by simp) (by decide) ?_ ?_
 ·
  intro j x hx
  match j,hx with
  |0,hx=>cases hx;rfl
  |1,hx=>cases hx;rfl
  |2,hx=>cases hx;rfl
 intro x hx;simp only[List.mem_cons,List.not_mem_nil,or_false]at hx;rcases hx with rfl|rfl|rfl
 · rfl
 · exact congrArg CV.slc (denilL_u8 l)
 rfl
end Go.Proofs.YtlldglbooaefhaaGreatDoor
namespace Go.Pl
open Go Go.Hl
theorem qB (c:UInt8): ∀l:List UInt8,(aR c l).length=Lib.countByte l c+1
 |[]=>rfl
 |b::l=>by
  have ih:=qB c l;unfold Lib.countByte at ih⊢;rw[List.count_cons];unfold aR;by_cases h:b=c
  · rw[if_pos h];simp only[List.length_cons,ih,h,beq_self_eq_true,if_true]
  ·
   have hb:(b==c)=false:=by simpa using h
   rw[if_neg h];simp only[hb,Bool.false_eq_true,if_false,Nat.add_zero];split
   · rename_i x xs hx;rw[hx]at ih;simpa using ih
   · rename_i hx;exact absurd hx (cI c l)
theorem aS5 {c:UInt8}{l:List UInt8}(h:(aR c l).length=1):aR c l=[l]:=by
 by_cases hn:cX l c<0;all_goals grind[mV,dJ,List.length_pos_iff,cI,List.length_cons]
def SplSt (l:aH)(c:UInt8)(i:Nat)(rest:aH)(a:List aH):Prop:=
 a.length=(aR c l).length∧a.take i=(aR c l).take i∧(aR c l).drop i=aR c rest∧i<(aR c l).length∧rest.length≤l.length
section
variable {l rest:aH}{c:UInt8}{i k:Nat}{a:List aH}
theorem SplSt.init (l:aH)(c:UInt8):SplSt l c 0 l (List.replicate (aR c l).length []):=
 ⟨by simp,by simp,rfl,List.length_pos_iff.2 (cI c l),Nat.le_refl _⟩
theorem SplSt.next (h:SplSt l c i rest a)(hk:cX rest c=(k:Int)):k<rest.length∧SplSt l c (i+1) (rest.drop (k+1)) (a.set i (rest.take k)):=by
 obtain⟨h1,h2,h3,h4,h5⟩:=h;obtain⟨k',e1,e2,e3⟩:=dJ (l:=rest) (c:=c) (by omega);have:k'=k:=by omega
 subst this;rw[e3]at h3;have h6:=List.drop_eq_getElem_cons h4;rw[h6]at h3;have h7:=List.head_eq_of_cons_eq h3;have h8:=List.tail_eq_of_cons_eq h3;refine⟨e2,by grind,?_,h8,?_,by grind⟩
 · rw[List.take_succ_eq_append_getElem (by grind),List.take_succ_eq_append_getElem h4,List.getElem_set_self,List.take_set_of_le (Nat.le_refl _),h2,h7]
 grind[Nat.lt_or_ge,aR,List.drop_eq_nil_of_le,absurd,cI]
theorem SplSt.last (h:SplSt l c i rest a)(hk:cX rest c<0):i+1=(aR c l).length:=by
 obtain⟨h1,h2,h3,h4,h5⟩:=h;rw[mV hk]at h3;have:=congrArg List.length h3;grind
theorem SplSt.fin (h:SplSt l c i rest a)(hi:i+1=(aR c l).length):a.set i rest=aR c l:=by
 obtain⟨h1,h2,h3,h4,h5⟩:=h;have h6:(aR c rest).length=1:=by rw[←h3,List.length_drop];omega
 rw[aS5 h6]at h3;have e1:a.set i rest=(a.set i rest).take (i+1):=(List.take_of_length_le (by grind)).symm;rw[e1,List.take_succ_eq_append_getElem (by grind),List.getElem_set_self,List.take_set_of_le (Nat.le_refl _),h2];grind[List.take_append_drop,aR]
end
def nA (c:UInt8):Bool:=decide (48≤c.toNat)&&decide (c.toNat≤57)
def dD :aH→Nat→Option Nat
 |[],n=>some n
 |c::l,n=>if nA c then dD l (10*n+(c.toNat-48))else none
def gN (s:aH):Bool:=decide (s.length<1)||decide (13<s.length)||(decide (1<s.length)&&s.getD 0 0==48)
def bL (s:aH):Option Int:=if gN s then none else match dD s 0 with|some n=>if 1099511627776<n then none else some (n:Int)|none=>none
def DgSt (s:aH)(i n:Nat):Prop:=i≤s.length∧dD s 0=dD (s.drop i) n∧n<10^i
theorem DgSt.init (s:aH):DgSt s 0 0:=⟨Nat.zero_le _,rfl,by omega⟩
variable {i n:Nat}{s:aH}
theorem DgSt.next (h:DgSt s i n)(hi:i<s.length)(hd:nA s[i]=true):DgSt s (i+1) (10*n+(s[i].toNat-48)):=by
 obtain⟨h1,h2,h3⟩:=h;refine⟨hi,?_,?_⟩
 · rw[h2,List.drop_eq_getElem_cons hi,dD,if_pos hd]
 · simp only[nA,Bool.and_eq_true,decide_eq_true_eq]at hd;grind
theorem DgSt.bad (h:DgSt s i n)(hi:i<s.length)(hd:nA s[i]=false):dD s 0=none:=by
 rw[h.2.1,List.drop_eq_getElem_cons hi,dD,if_neg (by grind)]
theorem DgSt.fin (h:DgSt s i n)(hi:i=s.length):dD s 0=some n:=by
 rw[h.2.1,hi,List.drop_length];rfl
theorem DgSt.lt (h:DgSt s i n)(hs:s.length≤13):n<10000000000000:=by
 have:10^i≤10^13:=Nat.pow_le_pow_right (by omega) (Nat.le_trans h.1 hs);have:=h.2.2;omega
theorem wF (h:gN s=true):bL s=none:=by unfold bL;grind
theorem zB (h:dD s 0=none):bL s=none:=by grind[bL]
theorem bL2 (h:dD s 0=some n)(h1:1099511627776<n):bL s=none:=by simp_all[bL,if_pos]
theorem aX9 {n:Nat}(h0:gN s=false)(h:dD s 0=some n)(h1: ¬1099511627776<n):bL s=some (n:Int):=by simp_all[bL,if_neg]
theorem bL3 (c:UInt8):nA c=(decide ((48:Int)≤(c.toNat:Int))&&decide ((c.toNat:Int)≤57)):=by
 unfold nA;grind
theorem aS6 {n:Int}(h:bL s=some n):0≤n∧n≤1099511627776:=by grind[bL]
end Go.Pl
namespace Go.Proofs.YtlldglbooaefhaaGreatDoor
open Go Go.Hl Go.Pl
set_option maxRecDepth 10000
set_option maxHeartbeats 16000000
theorem bD9 (l:List UInt8)(c:UInt8):bV Tryz.prog 133 [.str l,u8 c] (fun v=>v= .int .i64 (Lib.countByte l c:Nat)):=
 rK (f:=133) (fn:=Tryz.f133) (e:=Extern.BytealgCount.count) Tryz.func133 (by kernel_rfl) (by kernel_rfl) (by kernel_rfl) (by kernel_rfl) fun w ρ O xs h=>by
  simp only[List.map_cons,List.map_nil,bJ,RepHV]at h;obtain⟨x,l1,rfl,hx,y,l2,rfl,hy,rfl⟩:=h;have h1:=RepV.single hx rfl;have h2:=RepV.single hy rfl;simp only[u8,RepC,List.cons.injEq,and_true]at h1 h2;subst h1 h2;refine⟨_,_,rfl,dM _ _ _ _ _,?_⟩;have:=Lib.run_countString (P:=Tryz.prog) ⟨l.toArray⟩ (c.toNat:Int) w;simpa using this
theorem wG (l:List UInt8)(c:UInt8):bV Tryz.prog 134 [.str l,.str [c]] (fun v=>v= .int .i64 (cX l c)):=by
 refine FW Tryz.func134 ?_;refine R0 ?_;refine R0 ?_;refine aC fun K hK=>?_;refine aL ?_;refine aC fun K hK=>Rg ?_;iterate 3 refine S0 ?_
 refine aE 18 rfl (fun h2_18=>?_) (fun h2_18=>?_)
 ·
  have F:=h2_18;iterate 5 refine SF ?_
  refine T2 (hK _ _ _ ?_);clear hK K;refine CT rfl ?_;refine R0 ?_;refine aF (RT Tryz.results134 ?_);exact absurd h2_18 (by decide)
 have F:=h2_18;iterate 5 refine SF ?_
 refine aE 22 rfl (fun h2_22=>?_) (fun h2_22=>?_)
 · simp only[h2_22];refine T2 (hK _ _ _ ?_);clear hK K;refine CT rfl ?_;refine R0 ?_;refine aF (RT Tryz.results134 ?_);have hl:l=[c]:=(eq_of_beq h2_22).symm;subst hl;exact aG [] (.int .i64 0) rfl (by simp[cX])
 simp only[h2_22];refine T2 (hK _ _ _ ?_);clear hK K;refine CF rfl ?_;refine R0 ?_;refine aJ (b:=(1:Int)==1) rfl (fun hb=>?_) (fun hb=>?_)
 ·
  refine aC fun K hK=>Rg ?_;have F:=aI @List.getD_cons_zero.{0} (aI h2_18 h2_22);iterate 3 refine SF ?_
  refine HS rfl rfl fun K' hK'=>T6 ?_;refine C2 (bL1 l c) ?_;rintro u rfl;refine AX (hK' _ _ ?_);clear hK' K';refine SF ?_;refine T2 (hK _ _ _ ?_);clear hK K;refine aF (RT Tryz.results134 ?_);exact aG [] (.int .i64 (cX l c)) rfl rfl
 exact absurd hb (by decide)
theorem aK9 (l:List UInt8)(c:UInt8):bV Tryz.prog 112 [.str l,.str [c]] (fun v=>v= .int .i64 (cX l c)):=by
 refine FW Tryz.func112 ?_;refine R0 ?_;refine aC fun K hK=>Rg ?_;iterate 2 refine S0 ?_
 refine HS rfl rfl fun K' hK'=>T5 ?_;refine C2 (wG l c) ?_;rintro u rfl;refine AX (hK' _ _ ?_);clear hK' K';refine S0 ?_;refine T2 (hK _ _ _ ?_);clear hK K;refine aF (RT Tryz.results112 ?_);exact aG [] (.int .i64 (cX l c)) rfl rfl
theorem aL0 (l:List UInt8)(c:UInt8):bV Tryz.prog 111 [.str l,.str [c]] (fun v=>v= .int .i64 (Lib.countByte l c:Nat)):=by
 refine FW Tryz.func111 ?_;refine R0 ?_;refine aC fun K hK=>?_;refine R0 ?_;refine aJ (b:=(1:Int)==0) rfl (fun hb=>?_) (fun hb=>?_)
 · exact absurd hb (by decide)
 refine aK ?_;refine T0 (hK _ _ _ ?_);clear hK K;refine aC fun K hK=>?_;refine R0 ?_;refine aJ (b:=(1:Int)==1) rfl (fun hb=>?_) (fun hb=>?_)
 ·
  refine aC fun K hK=>Rg ?_;have F:=@List.getD_cons_zero.{0};iterate 3 refine SF ?_
  refine HS rfl rfl fun K' hK'=>T6 ?_;refine C2 (bD9 l c) ?_;rintro u rfl;refine AX (hK' _ _ ?_);clear hK' K';refine SF ?_;refine T2 (hK _ _ _ ?_);clear hK K;refine aF (RT Tryz.results111 ?_);exact aG [] (.int .i64 _) rfl rfl
 exact absurd hb (by decide)
theorem aL1 (l:List UInt8)(c:UInt8)(hl:l.length<2^40):bV Tryz.prog 94 [.str l,.str [c],.int .i64 0,.int .i64 (-1)] (fun v=>v= .slc ((aR c l).map .str)):=by
 refine FW Tryz.func94 ?_;refine R0 ?_;refine aC fun K hK=>?_;refine R0 ?_;refine aJ (b:=(-1:Int)==0) rfl (fun hb=>?_) (fun hb=>?_)
 · exact absurd hb (by decide)
 refine aK ?_;refine T0 (hK _ _ _ ?_);clear hK K;refine aC fun K hK=>?_;refine R0 ?_;refine aJ (b:=[c]==[]) rfl (fun hb=>?_) (fun hb=>?_)
 · exact absurd hb (by simp)
 refine aK ?_;refine T0 (hK _ _ _ ?_);clear hK K;refine aC fun K hK=>?_;refine R0 ?_;refine aJ (b:=decide ((-1:Int)<0)) rfl (fun hb=>?_) (fun hb=>?_)
 ·
  obtain⟨n,hn⟩: ∃n,n=(aR c l).length:=⟨_,rfl⟩;have hcount:=qB c l;have hlen:=fM c l;rw[←hn]at hcount hlen;have hw0:IntKind.i64.wrap ((Lib.countByte l c:Nat)+1:Int)=(n:Int):=by rw[IntWalk.i64_in _ (by omega)];omega
  refine Rg ?_;have F:=hw0;iterate 2 refine SF ?_
  refine HS rfl rfl fun K' hK'=>T6 ?_;refine C2 (aL0 l c) ?_;rintro u rfl;refine AX (hK' _ _ ?_);clear hK' K';iterate 2 refine SF ?_
  refine T2 (hK _ _ _ ?_);clear hK K;have hw1:IntKind.i64.wrap ((l.length:Int)+1)=((l.length+1:Nat):Int):=by rw[IntWalk.i64_in _ (by omega)];omega
  have hmin:(if((l.length+1:Nat):Int)<(n:Int)then((l.length+1:Nat):Int)else(n:Int))=(n:Int):=by rw[if_neg (by omega)]
  refine aC fun K hK=>Rg ?_;have F:=aI hw1 hmin;iterate 6 refine SF ?_
  refine T2 (hK _ _ _ ?_);clear hK K;have hn0:((n:Int)=0)=False:=by simp;omega
  have hrep:(List.replicate n (CV.str []))=(List.replicate n ([]:aH)).map .str:=by simp
  have F:=aI hn0 (aI hrep @Int.toNat_natCast);refine RF ?_;have hw2:IntKind.i64.wrap ((n:Int)-1)=((n-1:Nat):Int):=by rw[IntWalk.i64_in _ (by omega)];omega
  have F:=hw2;refine RF ?_;refine R0 ?_;refine aC fun K hK=>?_;refine aL ?_;have hn1:1≤n:=by rw[hn];exact List.length_pos_iff.2 (cI c l)
  refine bF (α:={y:Nat×aH×List aH//SplSt l c y.1 y.2.1 y.2.2}) (fun y=>(fin [(0,.c (.str y.1.2.1)),(1,.c (.str [c])),(2,.c (.int .i64 0)),(3,.c (.int .i64 (n-1:Nat))),(9,.own 76 n),(10,.c (.int .i64 y.1.1))],fob [(76,.row 9 1 (y.1.2.2.map .str))])) 100 (fun y=>y.1.2.1.length) ⟨(0,l,List.replicate n []),by rw[hn];exact SplSt.init l c⟩ (fF) ?_;rintro⟨⟨i,rest,a⟩,hst⟩;simp only at hst;have hin:i<n:=by rw[hn];exact hst.2.2.2.1
  have hal:a.length=n:=by rw[hn];exact hst.1
  have hia:i<a.length:=by omega
  have hna:nth (a.map CV.str) i= .str a[i]:=bR hia;have hrl:=hst.2.2.2.2;refine aC fun K hK=>?_;refine R0 ?_;refine aJ (b:=decide ((i:Int)<((n-1:Nat):Int))) rfl (fun hb=>?_) (fun hb=>?_)
  ·
   have hi1:i+1<n:=by simp at hb;omega
   clear hb;refine aK ?_;refine T0 (hK _ _ _ ?_);clear hK K;refine aL ?_;refine aC fun K hK=>Rg ?_;iterate 2 refine S0 ?_
   refine HS rfl rfl fun K' hK'=>T5 ?_;refine C2 (aK9 rest c) ?_;rintro u rfl;refine AX (hK' _ _ ?_);clear hK' K';refine S0 ?_;refine T2 (hK _ _ _ ?_);clear hK K;refine aC fun K hK=>?_;refine R0 ?_;refine aJ (b:=decide (cX rest c<0)) rfl (fun hb=>?_) (fun hb=>?_)
   · have:=hst.last (by simpa using hb);omega
   obtain⟨k,hk,hkl,_⟩:=dJ (l:=rest) (c:=c) (by simpa using hb);obtain⟨_,hnx⟩:=hst.next hk;rw[hk];have hkl1:k+1≤rest.length:=hkl;have hw3:IntKind.i64.wrap ((k:Int)+0)=(k:Int):=by rw[IntWalk.i64_in _ (by omega)];omega
   have hw4:IntKind.i64.wrap ((k:Int)+1)=((k+1:Nat):Int):=by rw[IntWalk.i64_in _ (by omega)];rfl
   have hw5:IntKind.i64.wrap ((i:Int)+1)=((i+1:Nat):Int):=by rw[IntWalk.i64_in _ (by omega)];rfl
   have htd:List.take (rest.length-(k+1)) (List.drop (k+1) rest)=List.drop (k+1) rest:=List.take_of_length_le (by simp);refine aK ?_;refine T0 (hK _ _ _ ?_);clear hK K;refine aC fun K hK=>Rg ?_;iterate 9 refine S0 ?_ (e:=fun _ h_=>by simp only[sH,↓sP,sA,tyS,simprocAttr,Int.natCast_nonneg,Int.ofNat_le,Int.ofNat_lt,Nat.le_of_lt hkl,hw3,Nat.sub_zero,List.drop_zero,List.length_map,hal,hin,hna];exact AX h_)
   refine T2 (hK _ _ _ ?_);clear hK K;refine aC fun K hK=>Rg ?_;have F:=aI @Int.natCast_nonneg (aI @Int.ofNat_le (aI hkl1 (aI hw4 htd)));iterate 7 refine SF ?_
   refine T2 (hK _ _ _ ?_);clear hK K;refine aM (by kernel_rfl) ?_;refine TQ hw5 ?_;refine⟨⟨(i+1,rest.drop (k+1),a.set i (rest.take k)),hnx⟩,aN (by omega) ?_ ?_,?_⟩
   · simp[aY,upd_at,fin_at,HV.men]
   · simp only[aW,List.map_set];exact⟨rfl,by omega,trivial,trivial⟩
   show(rest.drop (k+1)).length<rest.length;simp;omega
  refine bA (T3 ?_);clear hK K;refine AX (hK _ _ _ ?_);clear hK K;have hi1:i+1=n:=by simp at hb;omega
  have hfin:=hst.fin (by omega);have hw5:IntKind.i64.wrap ((i:Int)+1)=(n:Int):=by rw[IntWalk.i64_in _ (by omega)];omega
  refine aC fun K hK=>Rg ?_;have F:=aI @Int.natCast_nonneg (aI @Int.ofNat_lt (aI @List.length_map.{0,0} (aI hal (aI hin hna))));iterate 5 refine SF ?_
  refine T2 (hK _ _ _ ?_);clear hK K;refine aC fun K hK=>Rg ?_;have F:=aI @Int.natCast_nonneg (aI hw5 (aI @List.length_map.{0,0} (aI @List.length_set.{0} (aI hal @Int.le_refl))));iterate 5 refine SF ?_
  refine T2 (hK _ _ _ ?_);clear hK K;refine aF (RT Tryz.results94 ?_);refine aG [76] (.slc ((aR c l).map .str)) ?_ rfl;have hset:(a.map CV.str).set i (CV.str rest)=(aR c l).map .str:=by rw[←List.map_set,hfin]
  have ht:List.take n ((aR c l).map CV.str)=(aR c l).map .str:=List.take_of_length_le (by simp[hn]);rw[hset];have hn0':0<n:=hn1;simp[HV.close,upd_at,←hn,HV.norm,HV.toC,CV.denil,denilL_str,ht,hn0']
 exact absurd hb (by decide)
theorem bL4 (l:List UInt8)(c:UInt8)(hl:l.length<2^40):bV Tryz.prog 68 [.str l,.str [c]] (fun v=>v= .slc ((aR c l).map .str)):=by
 refine FW Tryz.func68 ?_;refine R0 ?_;refine aC fun K hK=>Rg ?_;iterate 2 refine S0 ?_
 refine HS rfl rfl fun K' hK'=>T5 ?_;refine C4 (aL1 l c hl) ?_;rintro u rfl;refine AX (hK' _ _ ?_);clear hK' K';refine S0 ?_;refine T2 (hK _ _ _ ?_);clear hK K;refine aF (RT Tryz.results68 ?_);exact aG [] (.slc ((aR c l).map .str)) (by simp[HV.close,HV.norm,HV.toC,CV.denil,denilL_str]) rfl
end Go.Proofs.YtlldglbooaefhaaGreatDoor
namespace Go.Pl
open Go Go.Hl
def tab (n:Nat)(f:Nat→Bool):List Bool:=(List.range n).map f
theorem lP (n:Nat)(f:Nat→Bool):(tab n f).length=n:=by simp[tab]
variable {i n:Nat}{f:Nat→Bool}
theorem qC (h:i<n):(tab n f)[i]'(by rw[lP];exact h)=f i:=by simp[tab]
theorem bE0 (n:Nat):List.replicate n false=tab n (fun _=>false):=by
 refine List.ext_getElem (by simp[lP]) fun i h1 h2=>?_;grind[qC]
theorem bV3 {b:Bool}:(tab n f).set i b=tab n (fun j=>if j=i then b else f j):=by
 refine List.ext_getElem (by simp[lP]) fun j h1 h2=>?_;rw[lP]at h2;rw[qC h2,List.getElem_set];by_cases e:i=j
 · grind
 · rw[if_neg e,if_neg fun h=>e h.symm,qC h2]
theorem uB {g:Nat→Bool}(h: ∀i,i<n→f i=g i):tab n f=tab n g:=by grind[List.ext_getElem,lP,qC]
def bC1 (b:Bool):CV:= .bool b
theorem bV4 (h:i<n):nth ((tab n f).map bC1) i= .bool (f i):=by
 rw[bR (by rw[lP];exact h),qC h];rfl
section
variable (ps:List Pt)(s:aH)
def prt (k:Nat):Pt:=ps.getD k ⟨0,0⟩
theorem cB3 :mD ps s 0 0=true:=by rw[mD.eq_def]
theorem bL5 (i:Nat):mD ps s 0 (i+1)=false:=by rw[mD.eq_def]
theorem aL2 (k:Nat):mD ps s (k+1) 0=((prt ps k).long&&mD ps s k 0):=by rw[mD.eq_def];rfl
theorem kS (k i:Nat):mD ps s (k+1) (i+1)=if(prt ps k).long then mD ps s k (i+1)||(mD ps s (k+1) i&&(prt ps k).takes (s.getD i 0))else mD ps s k i&&(prt ps k).takes (s.getD i 0):=by
 rw[mD.eq_def];rfl
def nxt (k i j:Nat):Bool:=if j≤i then mD ps s (k+1) j else false
theorem bL6 (k:Nat)(j:Nat):(if j=0 then(mD ps s k 0&&(prt ps k).long)else false)=nxt ps s k 0 j:=by
 unfold nxt;by_cases h:j=0
 · subst h;rw[if_pos rfl,if_pos (Nat.le_refl _),aL2,Bool.and_comm]
 · rw[if_neg h,if_neg (by omega)]
theorem bL7 (k i:Nat)(j:Nat):(if j=i+1 then mD ps s (k+1) (i+1)else nxt ps s k i j)=nxt ps s k (i+1) j:=by
 unfold nxt;grind
theorem bV5 (k:Nat):tab (s.length+1) (nxt ps s k s.length)=tab (s.length+1) (mD ps s (k+1)):=
 uB fun i hi=>by unfold nxt;grind
theorem bL8 :tab (s.length+1) (fun j=>if j=0 then true else false)=tab (s.length+1) (mD ps s 0):=
 uB fun i _=>by
  cases i with
  |zero=>rw[cB3];rfl
  |succ i=>rw[bL5];rfl
theorem zC {k i:Nat}(h:k<ps.length):mN ps s k i=if(prt ps k).long then mD ps s (k+1) i else mD ps s k i:=by simp_all[mN,prt,if_pos,if_neg]
theorem cD7 (i:Nat):mN ps s ps.length i=mD ps s ps.length i:=by simp_all[mN,if_neg,Nat.lt_irrefl]
theorem bV6 (k:Nat):mN ps s k 0=mD ps s k 0:=by
 unfold mN;split
 · rename_i h;rw[aL2];show((ps.getD k ⟨0,0⟩).long&&_)=_;grind
 · rfl
def p1 (i k j:Nat):Bool:=(decide (j<k)&&((prt ps j).long&&(mN ps s j i&&(prt ps j).takes (s.getD i 0))))||
 (decide (1≤j)&&(decide (j-1<k)&&(!(prt ps (j-1)).long&&(mN ps s (j-1) i&&(prt ps (j-1)).takes (s.getD i 0)))))
theorem bV7 (i j:Nat):p1 ps s i 0 j=false:=by simp[p1]
theorem bV8 {i k j:Nat}(h:(mN ps s k i&&(prt ps k).takes (s.getD i 0))=false):p1 ps s i (k+1) j=p1 ps s i k j:=by
 unfold p1;have a:(decide (j<k+1)&&((prt ps j).long&&(mN ps s j i&&(prt ps j).takes (s.getD i 0))))=(decide (j<k)&&((prt ps j).long&&(mN ps s j i&&(prt ps j).takes (s.getD i 0)))):=by
  by_cases e:j=k
  · subst e;rw[h];simp
  ·
   have:decide (j<k+1)=decide (j<k):=by rw[decide_eq_decide];omega
   rw[this]
 have b:(decide (j-1<k+1)&&(!(prt ps (j-1)).long&&(mN ps s (j-1) i&&(prt ps (j-1)).takes (s.getD i 0))))=(decide (j-1<k)&&(!(prt ps (j-1)).long&&(mN ps s (j-1) i&&(prt ps (j-1)).takes (s.getD i 0)))):=by
  by_cases e:j-1=k
  · rw[e,h];simp
  ·
   have:decide (j-1<k+1)=decide (j-1<k):=by rw[decide_eq_decide];omega
   rw[this]
 rw[a,b]
theorem cD8 {i k j:Nat}(h:(mN ps s k i&&(prt ps k).takes (s.getD i 0))=true):p1 ps s i (k+1) j=if j=(if(prt ps k).long then k else k+1)then true else p1 ps s i k j:=by
 unfold p1;by_cases hl:(prt ps k).long=true
 ·
  rw[if_pos hl];by_cases e:j=k
  · subst e;rw[h,hl,if_pos rfl];simp
  ·
   rw[if_neg e];have a:decide (j<k+1)=decide (j<k):=by rw[decide_eq_decide];omega
   rw[a];congr 1;by_cases e2:j-1=k
   · rw[e2,hl];simp
   ·
    have:decide (j-1<k+1)=decide (j-1<k):=by rw[decide_eq_decide];omega
    rw[this]
 ·
  rw[if_neg hl];have hl':(prt ps k).long=false:=by simpa using hl
  by_cases e:j=k+1
  · subst e;rw[if_pos rfl,show k+1-1=k from rfl,h,hl'];simp
  ·
   rw[if_neg e];have a:(decide (j<k+1)&&((prt ps j).long&&(mN ps s j i&&(prt ps j).takes (s.getD i 0))))=(decide (j<k)&&((prt ps j).long&&(mN ps s j i&&(prt ps j).takes (s.getD i 0)))):=by
    by_cases e:j=k
    · subst e;rw[hl'];simp
    ·
     have:decide (j<k+1)=decide (j<k):=by rw[decide_eq_decide];omega
     rw[this]
   rw[a];congr 1;by_cases e2:1≤j
   ·
    have:decide (j-1<k+1)=decide (j-1<k):=by rw[decide_eq_decide];omega
    rw[this]
   ·
    have:decide (1≤j)=false:=by simpa using e2
    rw[this];rfl
def p2 (i k j:Nat):Bool:=if j≤k then mN ps s j (i+1)else p1 ps s i ps.length j
theorem bV9 (i:Nat):mN ps s 0 (i+1)=p1 ps s i ps.length 0:=by
 unfold p1;by_cases h:0<ps.length
 · rw[zC ps s h,zC ps s h];simp only[h,decide_true,Bool.true_and,Nat.le_zero,Nat.one_ne_zero,decide_false,Bool.false_and,Bool.or_false];split;all_goals simp_all[kS,bL5,if_pos]
 simp_all[mN,mD,if_neg,bL5]
theorem bW0 {i k:Nat}(hk:k<ps.length):mN ps s (k+1) (i+1)=(p1 ps s i ps.length (k+1)||(mN ps s k (i+1)&&(prt ps k).long)):=by
 have hX:mD ps s (k+1) (i+1)=(mN ps s k (i+1)&&(prt ps k).long||(!(prt ps k).long&&(mN ps s k i&&(prt ps k).takes (s.getD i 0)))):=by
  rw[zC ps s hk,zC ps s hk];by_cases hl:(prt ps k).long=true
  · rw[if_pos hl,hl];simp
  ·
   have hl':(prt ps k).long=false:=by simpa using hl
   rw[if_neg hl,if_neg hl,hl',kS,if_neg hl];simp
 have hN:mN ps s (k+1) (i+1)=(mD ps s (k+1) (i+1)||(decide (k+1<ps.length)&&((prt ps (k+1)).long&&(mN ps s (k+1) i&&(prt ps (k+1)).takes (s.getD i 0))))):=by
  by_cases h1:k+1<ps.length
  ·
   rw[zC ps s h1,zC ps s h1];by_cases hl:(prt ps (k+1)).long=true
   · rw[if_pos hl,if_pos hl,kS,if_pos hl,hl];simp[h1]
   ·
    have hl':(prt ps (k+1)).long=false:=by simpa using hl
    rw[if_neg hl,hl'];simp
  ·
   have:mN ps s (k+1) (i+1)=mD ps s (k+1) (i+1):=by unfold mN;rw[if_neg fun h'=>h1 h'.1]
   rw[this];simp[h1]
 rw[hN,hX];unfold p1;rw[show k+1-1=k from rfl];have h2:decide (k<ps.length)=true:=by simpa using hk
 have h3:decide (1≤k+1)=true:=by simp
 rw[h2,h3];simp only[Bool.true_and];generalize (decide (k+1<ps.length)&&((prt ps (k+1)).long&&(mN ps s (k+1) i&&(prt ps (k+1)).takes (s.getD i 0))))=A;generalize (mN ps s k (i+1)&&(prt ps k).long)=B;generalize (!(prt ps k).long&&(mN ps s k i&&(prt ps k).takes (s.getD i 0)))=C;cases A<;>cases B<;>cases C<;>rfl
theorem bW1 (i j:Nat):p1 ps s i ps.length j=p2 ps s i 0 j:=by simp_all[p2,if_pos,bV9,if_neg]
theorem aY0 {i k:Nat}(hk:k<ps.length)(j:Nat):(if(p2 ps s i k k&&(prt ps k).long)=true then(if j=k+1 then true else p2 ps s i k j)else p2 ps s i k j)=p2 ps s i (k+1) j:=by
 have hkk:p2 ps s i k k=mN ps s k (i+1):=by unfold p2;grind
 rw[hkk];by_cases e:j=k+1
 ·
  subst e;have h1:p2 ps s i (k+1) (k+1)=mN ps s (k+1) (i+1):=by unfold p2;grind
  have h2:p2 ps s i k (k+1)=p1 ps s i ps.length (k+1):=by unfold p2;grind
  rw[h1,h2,bW0 ps s hk,if_pos rfl];grind
 ·
  have:p2 ps s i (k+1) j=p2 ps s i k j:=by
   unfold p2;by_cases h2:j≤k
   · rw[if_pos h2,if_pos (by omega)]
   · rw[if_neg h2,if_neg (by omega)]
  grind
theorem cD9 (i:Nat):tab (ps.length+1) (p2 ps s i ps.length)=tab (ps.length+1) (fun k=>mN ps s k (i+1)):=
 uB fun j hj=>by unfold p2;grind
end
end Go.Pl
namespace Go.Proofs.YtlldglbooaefhaaGreatDoor
open Go Go.Hl Go.Pl
set_option maxRecDepth 10000
set_option maxHeartbeats 16000000
theorem wH (c d:UInt8):((c.toNat:Int)==(d.toNat:Int))=(c==d):=by
 by_cases h:c=d
 · simp[h]
 have: ¬(c.toNat:Int)=(d.toNat:Int):=fun e=>h (UInt8.toNat_inj.1 (by omega));rw[beq_false_of_ne this,beq_false_of_ne h]
theorem bE1 (c d:UInt8):((c.toNat:Int) !=(d.toNat:Int))=!(c==d):=by
 show(!((c.toNat:Int)==(d.toNat:Int)))=_;rw[wH]
theorem fB (x:Pt)(hk:x.k≤3):bV Tryz.prog 98 [x.cv] (fun v=>v= .bool x.long):=by
 refine FW Tryz.func98 ?_;have F:=aI @Pt.cells (aI @Pt.isAgg @Pt.getAll);refine RF ?_;refine aC fun K hK=>Rg ?_;have F:=@Pt.get_k;iterate 4 refine SF ?_
 refine aE 5 rfl (fun h1_5=>?_) (fun h1_5=>?_)
 ·
  have F:=aI @Pt.get_k h1_5;iterate 5 refine SF ?_
  refine T2 (hK _ _ _ ?_);clear hK K;refine aF (RT Tryz.results98 ?_);refine aG [] (.bool _) rfl ?_;have hkk:x.k=0∨x.k=1∨x.k=2∨x.k=3:=by omega
  rcases hkk with h|h|h|h<;>simp_all[Pt.long]
 have F:=aI @Pt.get_k h1_5;iterate 5 refine SF ?_
 refine T2 (hK _ _ _ ?_);clear hK K;refine aF (RT Tryz.results98 ?_);refine aG [] (.bool _) rfl ?_;have hkk:x.k=0∨x.k=1∨x.k=2∨x.k=3:=by omega
 rcases hkk with h|h|h|h<;>simp_all[Pt.long]
theorem aD4 (x:Pt):bV Tryz.prog 100 [x.cv] (fun v=>v= .bool x.long):=by
 refine FW Tryz.func100 ?_;have F:=aI @Pt.cells (aI @Pt.isAgg @Pt.getAll);refine RF ?_;refine aC fun K hK=>Rg ?_;have F:=@Pt.get_k;iterate 4 refine SF ?_
 refine T2 (hK _ _ _ ?_);clear hK K;refine aF (RT Tryz.results100 ?_);refine aG [] (.bool _) rfl ?_;congr 1;simp only[Pt.long];by_cases h:2≤x.k
 · simp[h];omega
 simp[h];omega
theorem bW2 (c:UInt8):bV Tryz.prog 115 [u8 c] (fun v=>v= .bool true):=by
 refine FW Tryz.func115 ?_;refine R0 ?_;refine R0 ?_;refine aF (RT Tryz.results115 ?_);exact aG [] (.bool true) rfl rfl
theorem aY1 (c:UInt8):bV Tryz.prog 116 [u8 c] (fun v=>v= .bool (!(c==47))):=by
 refine FW Tryz.func116 ?_;refine R0 ?_;refine R0 ?_;refine aF (RT Tryz.results116 ?_);exact aG [] (.bool (!(c==47))) (by rw[←bE1 c 47];rfl) rfl
end Go.Proofs.YtlldglbooaefhaaGreatDoor
namespace Go.Pl
open Go Go.Hl
def aft (l:List Nd)(i:Nat):Nat:=l.length-((skip 1 (l.drop i)).getD []).length
variable {i:Nat}{l:List Nd}
theorem aS7 {j:Nat}(hj:j≤l.length)(h:skip 1 (l.drop i)=some (l.drop j)):aft l i=j:=by grind[aft,List.length_drop]
theorem kG (h:IsTree l)(hi:i<l.length):i<aft l i∧aft l i≤l.length∧skip 1 (l.drop i)=some (l.drop (aft l i)):=by grind[bJ1,aS7]
def AftSt (l:List Nd)(i m p:Nat):Prop:=p≤l.length∧skip m (l.drop p)=skip 1 (l.drop i)
theorem AftSt.lt (ht:IsTree l){m p:Nat}(hi:i<l.length)(h:AftSt l i m p)(hm:0<m):p<l.length:=by
 rcases Nat.lt_or_ge p l.length with h1|h1
 · grind
 · have h2:=h.2;rw[List.drop_eq_nil_of_le h1,(kG ht hi).2.2]at h2;obtain⟨k,rfl⟩: ∃k,m=k+1:=⟨m-1,by omega⟩;cases h2
theorem AftSt.next {m p:Nat}(h:AftSt l i (m+1) p)(hp:p<l.length):AftSt l i (m+l[p].c.toNat) (p+1):=by
 refine⟨hp,?_⟩;rw[←h.2,List.drop_eq_getElem_cons hp];rfl
theorem AftSt.fin {p:Nat}(h:AftSt l i 0 p):p=aft l i:=by
 have h2:=h.2;rw[cM]at h2;exact(aS7 h.1 h2.symm).symm
def jV (l:List Nd):Nat→Nat→List Nat
 |0,_=>[]
 |k+1,at_=>at_::jV l k (aft l at_)
def bL9 (l:List Nd)(i:Nat):List Nat:=jV l (l.getD i nd0).c.toNat (i+1)
def rS (l:List Nd)(i:Int):List Nat:=if cW l=true∧0≤i∧i<l.length then bL9 l i.toNat else []
theorem zD (l:List Nd): ∀(k p:Nat),(jV l k p).length=k
 |0,_=>rfl
 |k+1,p=>by simp[jV,zD l k]
def dW (l:List Nd):Nat→Nat→Nat
 |0,p=>p
 |k+1,p=>dW l k (aft l p)
theorem gB (l:List Nd): ∀(k p:Nat),dW l (k+1) p=aft l (dW l k p)
 |0,p=>rfl
 |k+1,p=>gB l k (aft l p)
theorem wI (l:List Nd): ∀(k p:Nat),jV l (k+1) p=jV l k p++[dW l k p]
 |0,p=>rfl
 |k+1,p=>by rw[jV,wI l k];rfl
theorem gU {l:List Nd}(ht:IsTree l){i:Nat}(hi:i<l.length): ∀k,k≤l[i].c.toNat→dW l k (i+1)≤l.length∧skip (l[i].c.toNat-k) (l.drop (dW l k (i+1)))=some (l.drop (aft l i))∧i+1≤dW l k (i+1)
 |0,_=>by
  refine⟨hi,?_,Nat.le_refl _⟩;have:=(kG ht hi).2.2;rw[List.drop_eq_getElem_cons hi]at this;show skip (l[i].c.toNat-0) _=_;rw[←this,Nat.sub_zero];show _=skip (0+l[i].c.toNat) _;rw[Nat.zero_add];rfl
 |k+1,hk=>by
  obtain⟨h1,h2,h3⟩:=gU ht hi k (by omega);have hlt:dW l k (i+1)<l.length:=by
   rcases Nat.lt_or_ge (dW l k (i+1)) l.length with h|h
   · exact h
   · rw[List.drop_eq_nil_of_le h]at h2;obtain⟨q,hq⟩: ∃q,l[i].c.toNat-k=q+1:=⟨l[i].c.toNat-k-1,by omega⟩;rw[hq]at h2;cases h2
  obtain⟨a1,a2,a3⟩:=kG ht hlt;rw[gB];refine⟨a2,?_,by omega⟩;obtain⟨q,hq⟩: ∃q,l[i].c.toNat-k=1+q:=⟨l[i].c.toNat-k-1,by omega⟩;rw[hq,eZ,a3]at h2;grind
theorem nB (ht:IsTree l)(hi:i<l.length){k:Nat}(hk:k<l[i].c.toNat):dW l k (i+1)<l.length:=by
 obtain⟨h1,h2,_⟩:=gU ht hi k (by omega);rcases Nat.lt_or_ge (dW l k (i+1)) l.length with h|h
 · exact h
 · rw[List.drop_eq_nil_of_le h]at h2;obtain⟨q,hq⟩: ∃q,l[i].c.toNat-k=q+1:=⟨l[i].c.toNat-k-1,by omega⟩;rw[hq]at h2;cases h2
def gG :Nat→List Nd→List Nat
 |_,[]=>[]
 |o,n::l=>if n.k=1 then o::gG (o+1) l else gG (o+1) l
def iR (l:List Nd):List Nat:=if cW l then gG 0 l else []
theorem kT : ∀(l:List Nd) (o:Nat),(gG o l).length=lv l
 |[],_=>rfl
 |n::l,o=>by
  rw[gG,lv];split
  · simp[kT l];omega
  · simp[kT l]
theorem qD : ∀(a b:List Nd) (o:Nat),gG o (a++b)=gG o a++gG (o+a.length) b
 |[],b,o=>by simp[gG]
 |n::a,b,o=>by
  simp only[List.cons_append,gG,qD a b,List.length_cons];grind
theorem aS8 (h:i<l.length):gG 0 (l.take (i+1))=gG 0 (l.take i)++(if l[i].k=1 then [i]else []):=by
 rw[List.take_succ_eq_append_getElem h,qD];have:(l.take i).length=i:=by simp;omega
 simp_all[Nat.zero_add,gG]
theorem aL3 (h:IsTree l):1≤lv l:=by
 have key: ∀(l:List Nd) (m:Nat),skip (m+1) l=some []→(∀n∈l,bP n=true)→1≤lv l:=by
  intro l;induction l with
  |nil=>intro m h;cases h
  |cons n l ih=>
   intro m h hn;have h':skip (m+n.c.toNat) l=some []:=h;obtain⟨c1,c2,c3,c4⟩:=dO (hn n List.mem_cons_self);rw[lv];split
   · omega
   · rename_i hk;have:=c4 hk;obtain⟨q,hq⟩: ∃q,m+n.c.toNat=q+1:=⟨m+n.c.toNat-1,by omega⟩;grind
 exact key l 0 h.skip h.node
def cnt (l:List Bool):Nat:=(l.filter id).length
theorem cE0 (l:List Bool):cnt l≤l.length:=List.length_filter_le _ _
theorem aL4 (l:List Bool):cnt l.reverse=cnt l:=by simp[cnt,List.filter_reverse]
def kU (n:Nd)(l:List Bool):Bool:=if n.k=2 then cnt l==l.length else if n.k=3 then decide (1≤cnt l)else decide (n.n≤cnt l)
def evS (T:Nat)(tr:List Bool):List Nd→List Bool
 |[]=>[]
 |n::l=>if n.k=1 then tr.getD (T-lv (n::l)) false::evS T tr l else kU n ((evS T tr l).take n.c.toNat)::(evS T tr l).drop n.c.toNat
theorem aD5 {T:Nat}{tr:List Bool}: ∀(l:List Nd) (m:Nat),(∀n∈l,bP n=true)→skip m l=some []→(evS T tr l).length=m
 |[],0,_,_=>rfl
 |[],m+1,_,h=>by cases h
 |n::l,0,_,h=>by grind[cM]
 |n::l,m+1,hn,h=>by
  have h':skip (m+n.c.toNat) l=some []:=h;have ih:=aD5 (T:=T) (tr:=tr) l _ (fun x hx=>hn x (List.mem_cons_of_mem _ hx)) h';obtain⟨c1,c2,c3,c4⟩:=dO (hn n List.mem_cons_self);grind[evS,List.length_cons,List.length_drop]
def wJ (l:List Nd)(tr:List Bool):Bool:=cW l&&(evS (lv l) tr l).headD false
theorem aD6 (l:List Nd)(i:Nat):lv (l.take i)+lv (l.drop i)=lv l:=by rw[←rG,List.take_append_drop]
theorem bM0 (ht:IsTree l){tr:List Bool}(hi:i<l.length):l[i].c.toNat≤(evS (lv l) tr (l.drop (i+1))).length:=by
 obtain⟨k,hk⟩:=rH l 1 ht.skip ht.node i hi;rw[List.drop_eq_getElem_cons hi]at hk;have hk':skip (k+l[i].c.toNat) (l.drop (i+1))=some []:=hk;rw[aD5 _ _ (fun n hn=>ht.node n (List.mem_of_mem_drop hn)) hk'];omega
theorem tD (c:UInt8): ∀m:aH,aR c (m++[c])=aR c m++[[]]
 |[]=>by simp[aR]
 |b::m=>by
  have ih:=tD c m;simp only[List.cons_append];rw[aR,aR];by_cases h:b=c
  · grind
  · rw[if_neg h,if_neg h,ih];grind[aR,absurd,cI]
theorem nC {c:UInt8}: ∀{l:aH},l≠[]→(aR c l).getLast (cI c l)=[]→ ∃m,l=m++[c]
 |[],h,_=>absurd rfl h
 |b::l,_,hl=>by
  by_cases h:b=c
  ·
   subst h;have hs:aR b (b::l)=[]::aR b l:=by rw[aR,if_pos rfl]
   cases l with
   |nil=>simp_all
   |cons d l=>
    have:(aR b (d::l)).getLast (cI b _)=[]:=by
     simp only[hs]at hl;rw[List.getLast_cons (cI b _)]at hl;exact hl
    obtain⟨m,hm⟩:=nC (l:=d::l) (by simp) this;grind
  ·
   cases hs:aR c l with
   |nil=>exact absurd hs (cI c l)
   |cons x xs=>
    have hs2:aR c (b::l)=(b::x)::xs:=by rw[aR,if_neg h,hs]
    simp only[hs2]at hl;cases xs with
    |nil=>grind
    |cons y ys=>
     have hne:l≠[]:=by rintro rfl;simp[aR]at hs
     have:(aR c l).getLast (cI c l)=[]:=by
      simp only[hs];rw[List.getLast_cons (by simp)]at hl⊢;exact hl
     obtain⟨m,hm⟩:=nC hne this;grind
def lV (c:UInt8):List aH→aH
 |[]=>[]
 |w::l=>w++l.flatMap fun v=>c::v
theorem nD (c:UInt8): ∀l:aH,lV c (aR c l)=l
 |[]=>rfl
 |b::l=>by
  have ih:=nD c l;rw[aR];cases hs:aR c l with
  |nil=>exact absurd hs (cI c l)
  |cons x xs=>
   grind[lV]
theorem tE {c:UInt8}: ∀{w:aH},(∀b∈w,b≠c)→aR c w=[w]
 |[],_=>rfl
 |b::w,h=>by
  rw[aR,if_neg (h b List.mem_cons_self),tE fun x hx=>h x (List.mem_cons_of_mem _ hx)]
theorem wK {c:UInt8}{r:aH}: ∀{w:aH},(∀b∈w,b≠c)→aR c (w++c::r)=w::aR c r
 |[],_=>by simp only[List.nil_append];rw[aR,if_pos rfl]
 |b::w,h=>by
  simp only[List.cons_append];rw[aR,if_neg (h b List.mem_cons_self),wK fun x hx=>h x (List.mem_cons_of_mem _ hx)]
theorem nE {c:UInt8}: ∀{l:List aH},l≠[]→(∀w∈l,∀b∈w,b≠c)→aR c (lV c l)=l
 |[],h,_=>absurd rfl h
 |[w],_,h=>by grind[lV,tE,List.mem_cons_self]
 |w::v::l,_,h=>by
  have ih:=nE (c:=c) (l:=v::l) (by simp) fun x hx=>h x (List.mem_cons_of_mem _ hx);grind[lV,wK,List.mem_cons_self]
theorem aS9 (c:UInt8)(m:aH):((aR c m).flatMap fun r=>r++[c])=m++[c]:=by
 have h:=nD c m;cases hs:aR c m with
 |nil=>exact absurd hs (cI c m)
 |cons x xs=>
  rw[hs]at h;simp only[lV]at h;rw[←h];have key: ∀(x:aH) (xs:List aH),(List.flatMap (fun r=>r++[c]) (x::xs))=(x++xs.flatMap fun v=>c::v)++[c]:=by
   intro x xs;induction xs generalizing x with
   |nil=>simp
   |cons y ys ih=>
    grind
  grind
set_option maxRecDepth 20000 in
theorem aL5 {c:UInt8}(h:valH c<16):mU (valH c)=c:=by
 have key: ∀n:Fin 256,valH (UInt8.ofNat n.1)<16→mU (valH (UInt8.ofNat n.1))=UInt8.ofNat n.1:=by decide
 have:=key ⟨c.toNat,c.toNat_lt⟩;simp_all
set_option maxRecDepth 20000 in
theorem zE {n:Nat}(h:n<16):valH (mU n)=n:=by
 have key: ∀n:Fin 16,valH (mU n.1)=n.1:=by decide
 exact key ⟨n,h⟩
theorem bM1 {x y:UInt8}(h:okH x y=true):kQ (byteH x y)=[37,x,y]:=by
 simp only[okH,Bool.and_eq_true,decide_eq_true_eq,Bool.not_eq_true']at h;obtain⟨⟨h1,h2⟩,h3⟩:=h;unfold kQ;rw[h3,yP h1 h2];have e1:(16*valH x+valH y)/16=valH x:=by omega
 have e2:(16*valH x+valH y)%16=valH y:=by omega
 simp only[Bool.false_eq_true,if_false,e1,e2,aL5 h1,aL5 h2]
variable {c:UInt8}
theorem wL (h:cS c=true):kQ c=[c]:=by unfold kQ;grind
theorem aD7 : ∀(n:Nat) {s w:aH},s.length≤n→unB s=some w→cK w=s
 |0,s,w,hn,h=>by simp_all[List.eq_nil_of_length_eq_zero,unB,Option.some.injEq]
 |n+1,[],w,_,h=>by simp_all[unB,Option.some.injEq]
 |n+1,c::l,w,hn,h=>by
  simp only[List.length_cons]at hn;by_cases hp:cS c=true
  · rw[nZ hp,Option.map_eq_some_iff]at h;obtain⟨w',h',rfl⟩:=h;have ih:=aD7 n (by omega) h';grind[cK,wL]
  ·
   have hp:cS c=false:=by simpa using hp
   by_cases hc:c=37
   ·
    subst hc
    match l,h with
    |[],h=>grind[uA]
    |[x],h=>grind[uA]
    |x::y::l',h=>
     by_cases ho:okH x y=true
     · rw[aC6 ho,Option.map_eq_some_iff]at h;obtain⟨w',h',rfl⟩:=h;have ih:=aD7 n (by grind) h';grind[cK,bM1]
     grind[sY]
   grind[uA]
theorem bW3 {s w:aH}(h:unW s=some w):jM w=s:=by
 unfold unW at h;split at h
 · rename_i hs;cases h;rw[hs];rfl
 ·
  split at h
  · cases h
  · rename_i h1 h2;have:=aD7 _ (Nat.le_refl _) h;unfold jM;rw[if_neg (cD4 h2 h),this]
theorem zF : ∀w:aH,unB (cK w)=some w
 |[]=>rfl
 |c::w=>by
  have ih:=zF w;have e:cK (c::w)=kQ c++cK w:=by simp[cK]
  rw[e];by_cases hp:cS c=true
  · grind[wL,nZ]
  ·
   have hp:cS c=false:=by simpa using hp
   have hlt:=c.toNat_lt;have h1:valH (mU (c.toNat/16))=c.toNat/16:=zE (by omega);have h2:valH (mU (c.toNat%16))=c.toNat%16:=zE (by omega);have hb:byteH (mU (c.toNat/16)) (mU (c.toNat%16))=c:=by
    unfold byteH;rw[h1,h2,Nat.div_add_mod];exact UInt8.ofNat_toNat
   have ho:okH (mU (c.toNat/16)) (mU (c.toNat%16))=true:=by
    simp only[okH,hb,hp,h1,h2,Bool.and_eq_true,decide_eq_true_eq,Bool.not_false,and_true];omega
   grind[kQ,mU,aC6]
variable {b:UInt8}
theorem zG (h:b∈kQ c):b≠10∧b≠32∧b≠126:=by
 unfold kQ at h;split at h
 · rename_i hp;simp only[List.mem_singleton]at h;subst h;refine⟨?_,?_,?_⟩<;>(rintro rfl;revert hp;decide)
 ·
  have key: ∀n:Nat,mU n≠10∧mU n≠32∧mU n≠126:=by
   intro n;unfold mU;rcases Nat.lt_or_ge n 16 with hn|hn
   ·
    have: ∀n:Fin 16,([48,49,50,51,52,53,54,55,56,57,65,66,67,68,69,70]:List UInt8).getD n.1 0≠10∧([48,49,50,51,52,53,54,55,56,57,65,66,67,68,69,70]:List UInt8).getD n.1 0≠32∧([48,49,50,51,52,53,54,55,56,57,65,66,67,68,69,70]:List UInt8).getD n.1 0≠126:=by decide
    exact this ⟨n,hn⟩
   · simp_all
  grind
theorem rT {w:aH}(h:b∈jM w):b≠10∧b≠32:=by
 unfold jM at h;split at h
 · grind
 · obtain⟨c,_,hc⟩:=List.mem_flatMap.1 h;grind[zG]
theorem bM2 (w:aH):unW (jM w)=some w:=by
 unfold jM;split
 · rename_i h;subst h;rfl
 ·
  rename_i h;have hne:cK w≠[]:=by
   intro he;have:=aI8 w;rw[he]at this;exact h (List.eq_nil_of_length_eq_zero (by grind))
  have h126:cK w≠[126]:=by
   intro he;have hm:(126:UInt8)∈cK w:=by rw[he];simp
   obtain⟨c,_,hc⟩:=List.mem_flatMap.1 hm;exact(zG hc).2.2 rfl
  simp_all[unW,if_neg,zF]
theorem rU {α β:Type}{f:α→Option β}: ∀{l:List α} {m:List β},l.mapM f=some m→(∀{g:β→α},(∀x y,f x=some y→g y=x)→m.map g=l)∧m.length=l.length
 |[],m,h=>by grind
 |a::l,m,h=>by
  rw[List.mapM_cons]at h;cases ha:f a with
  |none=>grind
  |some b=>
   rw[ha]at h;cases hl:l.mapM f with
   |none=>grind
   |some m'=>
    rw[hl]at h;cases h;obtain⟨h1,h2⟩:=rU hl;grind
theorem zH (l:List aH):iB l=lV 32 (l.map jM):=by
 cases l with
 |nil=>rfl
 |cons w l=>simp[iB,lV,List.flatMap_map]
theorem bW4 {r:aH}{ws:List aH}(h:unL r=some ws):iB ws=r:=by
 have:=(rU h).1 (g:=jM) fun x y h=>bW3 h;rw[zH,this,nD]
theorem zI : ∀l:List aH,(l.map jM).mapM unW=some l
 |[]=>rfl
 |w::l=>by rw[List.map_cons,List.mapM_cons,bM2,zI l];rfl
theorem bM3 {l:List aH}(h:l≠[]):unL (iB l)=some l:=by
 unfold unL;rw[zH,nE (by simp_all) (by
  intro w hw b hb;obtain⟨v,_,rfl⟩:=List.mem_map.1 hw;exact(rT hb).2),zI]
theorem bE2 {l:List aH}(h:b∈iB l):b≠10:=by
 cases l with
 |nil=>simp at h
 |cons w l=>
  simp only[iB,List.mem_append,List.mem_flatMap]at h;rcases h with h|⟨v,_,h⟩
  · exact(rT h).1
  · rcases List.mem_cons.1 h with rfl|h;all_goals grind[rT]
variable {ls:List (List aH)}
theorem bE3 (h:ls≠[]):gT ls=lV 10 (ls.map iB)++[10]:=by
 cases ls with
 |nil=>grind
 |cons l ls=>
  have key: ∀(l:List aH) (ls:List (List aH)),gT (l::ls)=lV 10 ((l::ls).map iB)++[10]:=by
   intro l ls;induction ls generalizing l with
   |nil=>simp[gT,lV,aI9]
   |cons k ls ih=>
    grind[gT,aI9,lV]
  grind
theorem zJ (m:aH):gA (m++[10])=(aR 10 m).mapM unR:=by simp_all[tD,gA,if_neg,if_pos,List.dropLast_concat]
theorem bE4 (h: ∀l∈ls,okL l=true):gA (gT ls)=some ls:=by
 by_cases hne:ls=[]
 · subst hne;simp[gA]
 ·
  rw[bE3 hne,zJ,nE (by simpa using hne) (by
   intro w hw b hb;obtain⟨l,_,rfl⟩:=List.mem_map.1 hw;exact bE2 hb)]
  clear hne;induction ls with
  |nil=>rfl
  |cons l ls ih=>
   have hl:=h l List.mem_cons_self;have hr:unR (iB l)=some l:=by
    unfold unR;rw[bM3 ((nY l).1 hl).1];simp only[hl,if_true]
   rw[List.map_cons,List.mapM_cons,hr,ih fun x hx=>h x (List.mem_cons_of_mem _ hx)];rfl
variable {rs:List aH}
theorem bM4 (h:rs.mapM unL=some ls):rs.mapM unR=if ls.all okL then some ls else none:=by
 induction rs generalizing ls with
 |nil=>grind
 |cons r rs ih=>
  rw[List.mapM_cons]at h;cases hr:unL r with
  |none=>grind
  |some l=>
   rw[hr]at h;cases hl:rs.mapM unL with
   |none=>grind
   |some m=>
    rw[hl]at h;cases h;rw[List.mapM_cons,ih hl];unfold unR;rw[hr];simp only[List.all_cons];by_cases h1:okL l=true
    · grind
    grind
theorem xP (h:rs.mapM unL=none):rs.mapM unR=none:=by
 induction rs with
 |nil=>grind
 |cons r rs ih=>
  rw[List.mapM_cons]at h⊢;cases hr:unL r with
  |none=>unfold unR;grind
  |some l=>
   rw[hr]at h;have:rs.mapM unL=none:=by
    cases hl:rs.mapM unL with
    |none=>rfl
    |some m=>rw[hl]at h;cases h
   rw[ih this];cases unR r<;>rfl
theorem bE5 {m:aH}(h:(aR 10 m).mapM unL=some ls):gT ls=m++[10]:=by
 have h1:=(rU h).1 (g:=iB) fun x y h=>bW4 h;have h2:=aS9 10 m;rw[←h1]at h2;rw[←h2];simp only[gT,List.flatMap_map];rfl
@[simp] theorem cG5 (l:List W32)(i:Nat)(x:W32):CV.agg ((l.map w32).set i (w32 x))=ws (l.set i x):=by rw[←List.map_set];rfl
@[simp] theorem cG6 (l:List UInt8)(i:Nat)(x:UInt8):CV.agg ((l.map u8).set i (u8 x))=us (l.set i x):=by rw[←List.map_set];rfl
@[simp] theorem cK6 (b:List UInt8):wA b 0=wz 64:=rfl
@[simp] theorem cK7 (w:List W32):wB w 0=w:=rfl
def cL5 (s r:St)(j:Nat):List W32:=(s.l.zipWith (fun x y=>x+y) r.l).take j++s.l.drop j
@[simp] theorem cG7 (s r:St):cL5 s r 0=s.l:=rfl
section
variable {b:List UInt8}{j:Nat}(h0:64*j≤b.length)(h1:b.length<64*j+64)
include h0 h1
end
section
variable {b:List UInt8}{j:Nat}(h0:64*j≤b.length)(h1:b.length<64*j+64)
include h0 h1
end
@[simp] theorem cK8 (l:List UInt8):CV.agg (l.map u8)=us l:=rfl
def ob8 (s:St)(i:Nat):UInt8:=UInt8.ofNat ((gw s.l (i/4))>>>(24-8*(i%4))).toNat
def cL6 (s:St)(n:Nat):List UInt8:=itN (fun i l=>l.set i (ob8 s i)) n (uz 32)
@[simp] theorem cG8 (s:St):cL6 s 0=uz 32:=rfl
end Go.Pl
