/- strconv.FormatInt at base 10, at this seat: from the shelf. By an AI agent. -/
import Derived.Test.YtflnfidkociekaaGreatDoorHeU1
import Derived.Test.YtflnfidkociekaaGreatDoorHlTab
import Derived.Lib.ItoaLen
import Derived.Shelf.LaysM
import Derived.Shelf.Strconv.Itoa4
set_option linter.unusedSimpArgs false
set_option linter.unusedVariables false
set_option linter.defProp false
namespace Go.Proofs.YtflnfidkociekaaGreatDoor
open Go Go.Hl Go.Pl
set_option maxRecDepth 10000
set_option maxHeartbeats 2000000
theorem xV (l:List aU)(hl:l.length<2^40):cL Tryz.prog 31 [.slc (l.map .str)] (fun v=>v= .int .i64 (jB l)):=by
 refine bI Tryz.func31 rfl (by kernel_rfl) (bJ _) (Nat.le_of_ble_eq_true rfl) ?_;refine aD fun K hK=>aC (by kernel_rfl) ?_;simp (maxSteps:=4000000) only[↓sP,sA,tyS,simprocAttr];repeat refine AI ?_
 refine hK _ _ _ ?_;clear hK K;refine aD fun K hK=>?_;refine bE ?_;refine aD fun K hK=>aC (by kernel_rfl) ?_;simp only[sR,simprocAttr];iterate 4
  (refine aB (g:=none) rfl rfl fun K' hK'=>?_;simp only[sH,↓sP,sA,tyS,simprocAttr];(repeat refine AI ?_);refine hK' _ _ ?_;clear hK' K')
 simp only[sE,↓reduceIte,simprocAttr];repeat refine AI ?_
 refine hK _ _ _ ?_;clear hK K;refine aQ (b:=(l.length:Int)==0) rfl (fun hb=>?_) (fun hb=>?_)
 ·
  refine aD fun K hK=>aC (by kernel_rfl) ?_;simp (maxSteps:=4000000) only[↓sP,sA,tyS,simprocAttr];repeat refine AI ?_
  refine hK _ _ _ ?_;clear hK K;refine aT ?_;simp (maxSteps:=4000000) only[bA,Tryz.results31,aY,aZ,aX,↓sP,sA,tyS,simprocAttr];exact bF [] (.int .i64 1) rfl (by rw[jB,if_pos (by simp at hb;simp[hb])])
 have hn0:l.length≠0:=by simp at hb;simp[hb]
 clear hb;refine aD fun K hK=>aC (by kernel_rfl) ?_;simp only[sR,simprocAttr];iterate 4
  (refine aB (g:=none) rfl rfl fun K' hK'=>?_;simp only[sH,↓sP,sA,tyS,simprocAttr];(repeat refine AI ?_);refine hK' _ _ ?_;clear hK' K')
 simp only[sE,↓reduceIte,simprocAttr];repeat refine AI ?_
 refine hK _ _ _ ?_;clear hK K;refine aQ (b:=decide ((120:Int)<l.length)) rfl (fun hb=>?_) (fun hb=>?_)
 ·
  refine aD fun K hK=>aC (by kernel_rfl) ?_;simp (maxSteps:=4000000) only[↓sP,sA,tyS,simprocAttr];repeat refine AI ?_
  refine hK _ _ _ ?_;clear hK K;refine aT ?_;simp (maxSteps:=4000000) only[bA,Tryz.results31,aY,aZ,aX,↓sP,sA,tyS,simprocAttr];exact bF [] (.int .i64 3) rfl (by rw[jB,if_neg hn0,if_pos (by simp at hb;omega)])
 refine aV ?_;simp (maxSteps:=4000000) only[↓sP,sA,tyS,simprocAttr];repeat refine AI ?_
 refine hK _ _ _ ?_;clear hK K;refine aD fun K hK=>?_;have hn1:l.length≤120:=by simp at hb;omega
 clear hb;refine aD fun K hK=>aC (by kernel_rfl) ?_;simp (maxSteps:=4000000) only[↓sP,sA,tyS,simprocAttr];repeat refine AI ?_
 refine hK _ _ _ ?_;clear hK K;refine bE ?_;refine cA (α:={i:Nat//i≤l.length∧ ∀x∈l.take i,decide (32768<x.length)=false}) (fun i=>(fin [(13,.c (.slc (l.map .str))),(14,.c (.int .i64 l.length)),(15,.c (.int .i64 i.1))],fob [])) 100 (fun i=>l.length-i.1) ⟨0,by omega,by simp⟩ (aS (by omega) (by simp[bK,fin_at,finA_at,upd_at,HV.men,HV.menL,HV.norm,HV.toC,HV.toCL]) (by simp[bM,fob_at,upd_at,none0_at,bY,HO.men,HV.men,HV.menL,HV.norm,HV.toC,HV.toCL])) ?_;rintro⟨i,hi,h0⟩;refine aD fun K hK=>aC (by kernel_rfl) ?_;simp (maxSteps:=4000000) only[↓sP,sA,tyS,simprocAttr];repeat refine AI ?_
 refine hK _ _ _ ?_;clear hK K;refine aD fun K hK=>?_;refine aQ (b:=decide ((i:Int)<l.length)) rfl (fun hb=>?_) (fun hb=>?_)
 ·
  have hlt:i<l.length:=by simpa using hb
  clear hb;refine aV ?_;simp (maxSteps:=4000000) only[↓sP,sA,tyS,simprocAttr];repeat refine AI ?_
  refine hK _ _ _ ?_;clear hK K;refine aD fun K hK=>?_;refine bE ?_;refine aD fun K hK=>aC (by kernel_rfl) ?_;simp (maxSteps:=4000000) only[↓sP,sA,tyS,simprocAttr,Int.natCast_nonneg,Int.ofNat_lt,hlt,bN hlt];repeat refine AI ?_
  refine hK _ _ _ ?_;clear hK K;refine aD fun K hK=>aC (by kernel_rfl) ?_;simp (maxSteps:=4000000) only[↓sP,sA,tyS,simprocAttr];repeat refine AI ?_
  refine hK _ _ _ ?_;clear hK K;refine aQ (b:=decide ((32768:Int)<l[i].length)) rfl (fun hb=>?_) (fun hb=>?_)
  ·
   refine aD fun K hK=>aC (by kernel_rfl) ?_;simp (maxSteps:=4000000) only[↓sP,sA,tyS,simprocAttr];repeat refine AI ?_
   refine hK _ _ _ ?_;clear hK K;refine aT ?_;simp (maxSteps:=4000000) only[bA,Tryz.results31,aY,aZ,aX,↓sP,sA,tyS,simprocAttr];exact bF [] (.int .i64 3) rfl (by rw[jB,if_neg hn0,if_neg (by omega),if_pos];simp only[List.any_eq_true,decide_eq_true_eq];exact⟨_,List.getElem_mem hlt,by simp at hb;omega⟩)
  refine aV ?_;simp (maxSteps:=4000000) only[↓sP,sA,tyS,simprocAttr];repeat refine AI ?_
  refine hK _ _ _ ?_;clear hK K;refine aC (by kernel_rfl) ?_;simp (maxSteps:=4000000) only[↓sP,sA,tyS,simprocAttr,IntWalk.i64_in _ (show-9223372036854775808≤(i:Int)+1∧(i:Int)+1≤9223372036854775807 by omega)];have hb2:decide (32768<l[i].length)=false:=by simp at hb⊢;omega
  refine⟨⟨i+1,hlt,aK5 (p:=fun x=>decide (32768<x.length)) hlt hb2 h0⟩,aS (by omega) (by simp[bK,fin_at,finA_at,upd_at,HV.men,HV.menL,HV.norm,HV.toC,HV.toCL]) (by simp[bM,fob_at,upd_at,none0_at,bY,HO.men,HV.men,HV.menL,HV.norm,HV.toC,HV.toCL]),?_⟩;show l.length-(i+1)<l.length-i;omega
 refine bW ?_;simp (maxSteps:=4000000) only[↓sP,sA,tyS,simprocAttr];clear hK K;repeat refine AI ?_
 refine hK _ _ _ ?_;clear hK K;refine aD fun K hK=>aC (by kernel_rfl) ?_;simp (maxSteps:=4000000) only[↓sP,sA,tyS,simprocAttr];repeat refine AI ?_
 refine hK _ _ _ ?_;clear hK K;refine aT ?_;simp (maxSteps:=4000000) only[bA,Tryz.results31,aY,aZ,aX,↓sP,sA,tyS,simprocAttr];have hei:i=l.length:=by simp at hb;omega
 subst hei;rw[List.take_length]at h0;exact bF [] (.int .i64 0) rfl (by rw[jB,if_neg hn0,if_neg (by omega),if_neg];simp only[List.any_eq_true,not_exists,not_and];intro x hx;simp[h0 x hx])
theorem bD6 (ls:List (List aU))(h0:ls.length<2^40)(h1: ∀l∈ls,l.length<2^40):eD Tryz.prog 16 [.slc (ls.map fun l=> .slc (l.map .str))] (fun u v=>u= .slc ((lW ls).map cQ)∧v= .int .i64 (gB ls)):=by
 refine bI Tryz.func16 rfl (by kernel_rfl) (bJ _) (Nat.le_of_ble_eq_true rfl) ?_;refine aD fun K hK=>aC (by kernel_rfl) ?_;simp (maxSteps:=4000000) only[↓sP,sA,tyS,simprocAttr];repeat refine AI ?_
 refine hK _ _ _ ?_;clear hK K;refine aD fun K hK=>?_;refine aD fun K hK=>aC (by kernel_rfl) ?_;simp (maxSteps:=4000000) only[↓sP,sA,tyS,simprocAttr];repeat refine AI ?_
 refine hK _ _ _ ?_;clear hK K;refine aQ (b:=decide ((1000:Int)<ls.length)) rfl (fun hb=>?_) (fun hb=>?_)
 ·
  refine aD fun K hK=>aC (by kernel_rfl) ?_;simp (maxSteps:=4000000) only[↓sP,sA,tyS,simprocAttr];repeat refine AI ?_
  refine hK _ _ _ ?_;clear hK K;refine aT ?_;simp (maxSteps:=4000000) only[bA,Tryz.results16,aY,aZ,aX,↓sP,sA,tyS,simprocAttr];have hE:=oL (ls:=ls) (by simp at hb;omega);refine aW [] (.slc []) (.int .i64 3) ?_ ⟨by rw[fQ (by rw[hE];decide)];rfl,by rw[hE]⟩;simp[HV.close,HV.closeL,CV.denil,CV.denilL,HV.norm,HV.toC,HV.toCL]
 refine aV ?_;simp (maxSteps:=4000000) only[↓sP,sA,tyS,simprocAttr];repeat refine AI ?_
 refine hK _ _ _ ?_;clear hK K;refine aD fun K hK=>?_;have hn:ls.length≤1000:=by simp at hb;omega
 clear hb;refine aD fun K hK=>aC (by kernel_rfl) ?_;simp (maxSteps:=4000000) only[↓sP,sA,tyS,simprocAttr];repeat refine AI ?_
 refine hK _ _ _ ?_;clear hK K;refine bE ?_;refine cA (α:={i:Nat//i≤ls.length∧ ∀x∈ls.take i,okL x=true}) (fun i=>(fin [(0,.c (.slc (ls.map fun l=> .slc (l.map .str)))),(20,.c (.slc (ls.map fun l=> .slc (l.map .str)))),(21,.c (.int .i64 ls.length)),(22,.c (.int .i64 i.1))],fob [])) 100 (fun i=>ls.length-i.1) ⟨0,by omega,by simp⟩ (aS (by omega) (by simp[bK,fin_at,finA_at,upd_at,HV.men,HV.menL,HV.norm,HV.toC,HV.toCL]) (by simp[bM,fob_at,upd_at,none0_at,bY,HO.men,HV.men,HV.menL,HV.norm,HV.toC,HV.toCL])) ?_;rintro⟨i,hi,hk⟩;refine aD fun K hK=>aC (by kernel_rfl) ?_;simp (maxSteps:=4000000) only[↓sP,sA,tyS,simprocAttr];repeat refine AI ?_
 refine hK _ _ _ ?_;clear hK K;refine aD fun K hK=>?_;refine aQ (b:=decide ((i:Int)<ls.length)) rfl (fun hb=>?_) (fun hb=>?_)
 ·
  have hlt:i<ls.length:=by simpa using hb
  clear hb;have hl1:=h1 ls[i] (List.getElem_mem hlt);refine aV ?_;simp (maxSteps:=4000000) only[↓sP,sA,tyS,simprocAttr];repeat refine AI ?_
  refine hK _ _ _ ?_;clear hK K;refine aD fun K hK=>?_;refine bE ?_;refine aD fun K hK=>aC (by kernel_rfl) ?_;simp (maxSteps:=4000000) only[↓sP,sA,tyS,simprocAttr,Int.natCast_nonneg,Int.ofNat_lt,hlt,bN hlt];repeat refine AI ?_
  refine hK _ _ _ ?_;clear hK K;refine aD fun K hK=>aC (by kernel_rfl) ?_;simp only[sR,simprocAttr];refine aB (g:=none) rfl rfl fun K' hK'=>?_;simp (maxSteps:=4000000) only[sH,↓sP,sA,tyS,simprocAttr];repeat refine AI ?_
  refine hK' _ _ ?_;clear hK' K';refine aB (g:=none) rfl rfl fun K' hK'=>?_;simp (maxSteps:=4000000) only[sH,↓sP,sA,tyS,simprocAttr];refine bH (args:=[_]) (xV ls[i] hl1) ⟨rfl,rfl,rfl,rfl⟩ ?_;rintro u rfl;repeat refine AI ?_
  refine hK' _ _ ?_;clear hK' K';refine aB (g:=none) rfl rfl fun K' hK'=>?_;simp (maxSteps:=4000000) only[sH,↓sP,sA,tyS,simprocAttr];repeat refine AI ?_
  refine hK' _ _ ?_;clear hK' K';simp only[sE,↓reduceIte,simprocAttr];repeat refine AI ?_
  refine hK _ _ _ ?_;clear hK K;refine aD fun K hK=>aC (by kernel_rfl) ?_;simp (maxSteps:=4000000) only[↓sP,sA,tyS,simprocAttr];repeat refine AI ?_
  refine hK _ _ _ ?_;clear hK K;refine aQ (b:=jB ls[i] !=0) rfl (fun hb=>?_) (fun hb=>?_)
  ·
   refine aD fun K hK=>aC (by kernel_rfl) ?_;simp (maxSteps:=4000000) only[↓sP,sA,tyS,simprocAttr];repeat refine AI ?_
   refine hK _ _ _ ?_;clear hK K;refine aT ?_;simp (maxSteps:=4000000) only[bA,Tryz.results16,aY,aZ,aX,↓sP,sA,tyS,simprocAttr];have hE:=mX hn hlt hk (by simpa[okL]using hb);refine aW [] (.slc []) (.int .i64 (jB ls[i])) ?_ ⟨by rw[fQ (by rw[hE];simpa using hb)];rfl,by rw[hE]⟩;simp[HV.close,HV.closeL,CV.denil,CV.denilL,HV.norm,HV.toC,HV.toCL]
  refine aV ?_;simp (maxSteps:=4000000) only[↓sP,sA,tyS,simprocAttr];repeat refine AI ?_
  refine hK _ _ _ ?_;clear hK K;refine aC (by kernel_rfl) ?_;simp (maxSteps:=4000000) only[↓sP,sA,tyS,simprocAttr,IntWalk.i64_in _ (show-9223372036854775808≤(i:Int)+1∧(i:Int)+1≤9223372036854775807 by omega)];refine⟨⟨i+1,hlt,?_⟩,aS (by omega) (by simp[bK,fin_at,finA_at,upd_at,HV.men,HV.menL,HV.norm,HV.toC,HV.toCL]) (by simp[bM,fob_at,upd_at,none0_at,bY,HO.men,HV.men,HV.menL,HV.norm,HV.toC,HV.toCL]),?_⟩
  ·
   intro x hx;rw[List.take_succ_eq_append_getElem hlt,List.mem_append,List.mem_singleton]at hx;rcases hx with hx|rfl
   · exact hk x hx
   simpa[okL]using hb
  show ls.length-(i+1)<ls.length-i;omega
 have hei:i=ls.length:=by simp at hb;omega
 subst hei;clear hb;rw[List.take_length]at hk;have hne: ∀l∈ls,l≠[]:=fun l hl=>((gU l).1 (hk l hl)).1;have hsd:=aE9 hk;have hdl:=mV hne;have hE:=vQ hn hk;have hst: ∀j,sumD (ls.take j)≤sumD ls:=fun j=>vP ls j;have hdt: ∀j,(eF (ls.take j)).length≤sumD ls:=fun j=>by rw[mV fun l hl=>hne l (List.mem_of_mem_take hl)];exact hst j
 refine bW ?_;simp (maxSteps:=4000000) only[↓sP,sA,tyS,simprocAttr];clear hK K;repeat refine AI ?_
 refine hK _ _ _ ?_;clear hK K;refine aD fun K hK=>aC (by kernel_rfl) ?_;simp (maxSteps:=4000000) only[↓sP,sA,tyS,simprocAttr];repeat refine AI ?_
 refine hK _ _ _ ?_;clear hK K;refine aD fun K hK=>?_;refine aD fun K hK=>aC (by kernel_rfl) ?_;simp (maxSteps:=4000000) only[↓sP,sA,tyS,simprocAttr];repeat refine AI ?_
 refine hK _ _ _ ?_;clear hK K;refine bE ?_;refine cA (α:={i:Nat//i≤ls.length}) (fun i=>(fin [(0,.c (.slc (ls.map fun l=> .slc (l.map .str)))),(7,.c (.int .i64 (sumD (ls.take i.1):Nat))),(32,.c (.slc (ls.map fun l=> .slc (l.map .str)))),(33,.c (.int .i64 ls.length)),(34,.c (.int .i64 i.1))],fob [])) 200 (fun i=>ls.length-i.1) ⟨0,by omega⟩ (aS (by omega) (by simp[bK,fin_at,finA_at,upd_at,HV.men,HV.menL,HV.norm,HV.toC,HV.toCL]) (by simp[bM,fob_at,upd_at,none0_at,bY,HO.men,HV.men,HV.menL,HV.norm,HV.toC,HV.toCL])) ?_;rintro⟨i,hi⟩;refine aD fun K hK=>aC (by kernel_rfl) ?_;simp (maxSteps:=4000000) only[↓sP,sA,tyS,simprocAttr];repeat refine AI ?_
 refine hK _ _ _ ?_;clear hK K;refine aD fun K hK=>?_;refine aQ (b:=decide ((i:Int)<ls.length)) rfl (fun hb=>?_) (fun hb=>?_)
 ·
  have hlt:i<ls.length:=by simpa using hb
  clear hb;have hst1:=aK2 hlt;have hst2:=hst (i+1);obtain⟨l,hl⟩: ∃l,l=ls[i]:=⟨_,rfl⟩;obtain⟨hl0,hl1,hl2⟩:=(gU l).1 (hk l (by rw[hl];exact List.getElem_mem hlt));have hln:nth (ls.map fun l=>CV.slc (l.map .str)) i= .slc (l.map .str):=by rw[bN hlt,hl]
  rw[←hl]at hst1;refine aV ?_;simp (maxSteps:=4000000) only[↓sP,sA,tyS,simprocAttr];repeat refine AI ?_
  refine hK _ _ _ ?_;clear hK K;refine aD fun K hK=>?_;refine bE ?_;refine aD fun K hK=>aC (by kernel_rfl) ?_;simp (maxSteps:=4000000) only[↓sP,sA,tyS,simprocAttr,Int.natCast_nonneg,Int.ofNat_lt,hlt,hln];repeat refine AI ?_
  refine hK _ _ _ ?_;clear hK K;refine aD fun K hK=>aC (by kernel_rfl) ?_;simp (maxSteps:=4000000) only[↓sP,sA,tyS,simprocAttr];repeat refine AI ?_
  refine hK _ _ _ ?_;clear hK K;refine bE ?_;refine cA (α:={i:Nat//i≤l.length}) (fun k=>(fin [(0,.c (.slc (ls.map fun l=> .slc (l.map .str)))),(7,.c (.int .i64 (sumD (ls.take i)+eX (l.take k.1):Nat))),(32,.c (.slc (ls.map fun l=> .slc (l.map .str)))),(33,.c (.int .i64 ls.length)),(34,.c (.int .i64 i)),(38,.c (.slc (l.map .str))),(39,.c (.int .i64 l.length)),(40,.c (.int .i64 k.1))],fob [])) 300 (fun k=>l.length-k.1) ⟨0,by omega⟩ (aS (by omega) (by simp[bK,fin_at,finA_at,upd_at,HV.men,HV.menL,HV.norm,HV.toC,HV.toCL]) (by simp[bM,fob_at,upd_at,none0_at,bY,HO.men,HV.men,HV.menL,HV.norm,HV.toC,HV.toCL])) ?_;rintro⟨k,hk'⟩;refine aD fun K hK=>aC (by kernel_rfl) ?_;simp (maxSteps:=4000000) only[↓sP,sA,tyS,simprocAttr];repeat refine AI ?_
  refine hK _ _ _ ?_;clear hK K;refine aD fun K hK=>?_;refine aQ (b:=decide ((k:Int)<l.length)) rfl (fun hb=>?_) (fun hb=>?_)
  ·
   have hlk:k<l.length:=by simpa using hb
   clear hb;have hlt1:=aK1 hlk;have hlt2:=mW l (k+1);have hw2:=hl2 l[k] (List.getElem_mem hlk);refine aV ?_;simp (maxSteps:=4000000) only[↓sP,sA,tyS,simprocAttr];repeat refine AI ?_
   refine hK _ _ _ ?_;clear hK K;refine aD fun K hK=>?_;refine bE ?_;refine aD fun K hK=>aC (by kernel_rfl) ?_;simp (maxSteps:=4000000) only[↓sP,sA,tyS,simprocAttr,Int.natCast_nonneg,Int.ofNat_lt,hlk,bN hlk];repeat refine AI ?_
   refine hK _ _ _ ?_;clear hK K;refine aC (by kernel_rfl) ?_;simp only[sR,simprocAttr];iterate 2
    (refine aB (g:=none) rfl rfl fun K' hK'=>?_;simp only[sH,↓sP,sA,tyS,simprocAttr,IntWalk.i64_in _ (show-9223372036854775808≤((sizeW l[k]:Nat):Int)+1∧((sizeW l[k]:Nat):Int)+1≤9223372036854775807 by omega),IntWalk.i64_in _ (show-9223372036854775808≤((sumD (ls.take i)+eX (l.take k):Nat):Int)+(((sizeW l[k]:Nat):Int)+1)∧((sumD (ls.take i)+eX (l.take k):Nat):Int)+(((sizeW l[k]:Nat):Int)+1)≤9223372036854775807 by omega)];(repeat refine AI ?_);refine hK' _ _ ?_;clear hK' K')
   refine aB (g:=none) rfl rfl fun K' hK'=>?_;simp (maxSteps:=4000000) only[sH,↓sP,sA,tyS,simprocAttr,IntWalk.i64_in _ (show-9223372036854775808≤((sizeW l[k]:Nat):Int)+1∧((sizeW l[k]:Nat):Int)+1≤9223372036854775807 by omega),IntWalk.i64_in _ (show-9223372036854775808≤((sumD (ls.take i)+eX (l.take k):Nat):Int)+(((sizeW l[k]:Nat):Int)+1)∧((sumD (ls.take i)+eX (l.take k):Nat):Int)+(((sizeW l[k]:Nat):Int)+1)≤9223372036854775807 by omega)];refine bH (args:=[_]) (aF3 l[k] (by omega)) ⟨rfl,rfl,rfl,rfl⟩ ?_;rintro u rfl;repeat refine AI ?_
   refine hK' _ _ ?_;clear hK' K';iterate 3
    (refine aB (g:=none) rfl rfl fun K' hK'=>?_;simp only[sH,↓sP,sA,tyS,simprocAttr,IntWalk.i64_in _ (show-9223372036854775808≤((sizeW l[k]:Nat):Int)+1∧((sizeW l[k]:Nat):Int)+1≤9223372036854775807 by omega),IntWalk.i64_in _ (show-9223372036854775808≤((sumD (ls.take i)+eX (l.take k):Nat):Int)+(((sizeW l[k]:Nat):Int)+1)∧((sumD (ls.take i)+eX (l.take k):Nat):Int)+(((sizeW l[k]:Nat):Int)+1)≤9223372036854775807 by omega)];(repeat refine AI ?_);refine hK' _ _ ?_;clear hK' K')
   simp only[sE,↓reduceIte,simprocAttr];repeat refine AI ?_
   refine hK _ _ _ ?_;clear hK K;refine aC (by kernel_rfl) ?_;simp (maxSteps:=4000000) only[↓sP,sA,tyS,simprocAttr,IntWalk.i64_in _ (show-9223372036854775808≤(k:Int)+1∧(k:Int)+1≤9223372036854775807 by omega)];have he:((sumD (ls.take i)+eX (l.take k):Nat):Int)+(((sizeW l[k]:Nat):Int)+1)=((sumD (ls.take i)+eX (l.take (k+1)):Nat):Int):=by omega
   simp only[he];refine⟨⟨k+1,hlk⟩,aS (by omega) (by simp[bK,fin_at,finA_at,upd_at,HV.men,HV.menL,HV.norm,HV.toC,HV.toCL]) (by simp[bM,fob_at,upd_at,none0_at,bY,HO.men,HV.men,HV.menL,HV.norm,HV.toC,HV.toCL]),?_⟩;show l.length-(k+1)<l.length-k;omega
  have hek:k=l.length:=by simp at hb;omega
  subst hek;clear hb;refine bW ?_;simp (maxSteps:=4000000) only[↓sP,sA,tyS,simprocAttr];clear hK K;repeat refine AI ?_
  refine hK _ _ _ ?_;clear hK K;refine aC (by kernel_rfl) ?_;simp (maxSteps:=4000000) only[↓sP,sA,tyS,simprocAttr,IntWalk.i64_in _ (show-9223372036854775808≤(i:Int)+1∧(i:Int)+1≤9223372036854775807 by omega)];have he:((sumD (ls.take i)+eX (l.take l.length):Nat):Int)=((sumD (ls.take (i+1)):Nat):Int):=by rw[List.take_length];omega
  simp only[he];refine⟨⟨i+1,hlt⟩,aS (by omega) (by simp[bK,fin_at,finA_at,upd_at,HV.men,HV.menL,HV.norm,HV.toC,HV.toCL]) (by simp[bM,fob_at,upd_at,none0_at,bY,HO.men,HV.men,HV.menL,HV.norm,HV.toC,HV.toCL]),?_⟩;show ls.length-(i+1)<ls.length-i;omega
 have hei:i=ls.length:=by simp at hb;omega
 subst hei;clear hb;refine bW ?_;simp (maxSteps:=4000000) only[↓sP,sA,tyS,simprocAttr];clear hK K;repeat refine AI ?_
 refine hK _ _ _ ?_;clear hK K;refine aD fun K hK=>?_;refine aD fun K hK=>aC (by kernel_rfl) ?_;simp (maxSteps:=4000000) only[↓sP,sA,tyS,simprocAttr,List.take_length];repeat refine AI ?_
 refine hK _ _ _ ?_;clear hK K;refine aQ (b:=decide ((262144:Int)<(sumD ls:Nat))) rfl (fun hb=>?_) (fun hb=>?_)
 ·
  refine aD fun K hK=>aC (by kernel_rfl) ?_;simp (maxSteps:=4000000) only[↓sP,sA,tyS,simprocAttr];repeat refine AI ?_
  refine hK _ _ _ ?_;clear hK K;refine aT ?_;simp (maxSteps:=4000000) only[bA,Tryz.results16,aY,aZ,aX,↓sP,sA,tyS,simprocAttr];rw[if_pos (by rw[hdl];simp at hb;omega)]at hE;refine aW [] (.slc []) (.int .i64 3) ?_ ⟨by rw[fQ (by rw[hE];decide)];rfl,by rw[hE]⟩;simp[HV.close,HV.closeL,CV.denil,CV.denilL,HV.norm,HV.toC,HV.toCL]
 refine aV ?_;simp (maxSteps:=4000000) only[↓sP,sA,tyS,simprocAttr];repeat refine AI ?_
 refine hK _ _ _ ?_;clear hK K;have hle:sumD ls≤262144:=by simp at hb;omega
 have hz:((sumD ls:Nat):Int)≤140737488355328:=by omega
 clear hb;rw[if_neg (by rw[hdl];omega)]at hE;have hO:=vR hE;refine aD fun K hK=>aC (by kernel_rfl) ?_;simp (maxSteps:=4000000) only[↓sP,sA,tyS,simprocAttr,Int.natCast_nonneg,hz,Int.mul_one,List.take_length];repeat refine AI ?_
 refine hK _ _ _ ?_;clear hK K;refine aD fun K hK=>?_;refine aD fun K hK=>aC (by kernel_rfl) ?_;simp (maxSteps:=4000000) only[↓sP,sA,tyS,simprocAttr];repeat refine AI ?_
 refine hK _ _ _ ?_;clear hK K;refine bE ?_;refine cA (α:={i:Nat//i≤ls.length}) (fun i=>(fin [(12,.own 216 (eF (ls.take i.1)).length),(55,.c (.slc (ls.map fun l=> .slc (l.map .str)))),(56,.c (.int .i64 ls.length)),(57,.c (.int .i64 i.1))],fob [(216,.row 5 1 ((eF (ls.take i.1)).map cQ))])) 400 (fun i=>ls.length-i.1) ⟨0,by omega⟩ (aS (by omega) (by simp[bK,fin_at,finA_at,upd_at,HV.men,HV.menL,HV.norm,HV.toC,HV.toCL]) (by simp[bM,fob_at,upd_at,none0_at,bY,HO.men,HV.men,HV.menL,HV.norm,HV.toC,HV.toCL])) ?_;rintro⟨i,hi⟩;refine aD fun K hK=>aC (by kernel_rfl) ?_;simp (maxSteps:=4000000) only[↓sP,sA,tyS,simprocAttr];repeat refine AI ?_
 refine hK _ _ _ ?_;clear hK K;refine aD fun K hK=>?_;refine aQ (b:=decide ((i:Int)<ls.length)) rfl (fun hb=>?_) (fun hb=>?_)
 ·
  have hlt:i<ls.length:=by simpa using hb
  clear hb;have hdt1:=tZ hlt;have hdt0:=hdt i;obtain⟨l,hl⟩: ∃l,l=ls[i]:=⟨_,rfl⟩;have hok:=hk l (by rw[hl];exact List.getElem_mem hlt);have hsl:=aE8 hok;obtain⟨hl0,hl1,hl2⟩:=(gU l).1 hok;have hln:nth (ls.map fun l=>CV.slc (l.map .str)) i= .slc (l.map .str):=by rw[bN hlt,hl]
  rw[←hl]at hdt1;refine aV ?_;simp (maxSteps:=4000000) only[↓sP,sA,tyS,simprocAttr];repeat refine AI ?_
  refine hK _ _ _ ?_;clear hK K;refine aD fun K hK=>?_;refine bE ?_;refine aD fun K hK=>aC (by kernel_rfl) ?_;simp (maxSteps:=4000000) only[↓sP,sA,tyS,simprocAttr,Int.natCast_nonneg,Int.ofNat_lt,hlt,hln];repeat refine AI ?_
  refine hK _ _ _ ?_;clear hK K;refine aD fun K hK=>?_;refine aD fun K hK=>aC (by kernel_rfl) ?_;simp (maxSteps:=4000000) only[↓sP,sA,tyS,simprocAttr];repeat refine AI ?_
  refine hK _ _ _ ?_;clear hK K;refine bE ?_;refine cA (α:={i:Nat//i≤l.length}) (fun k=>(fin [(12,.own 216 (eF (ls.take i)++eT (l.take k.1)).length),(55,.c (.slc (ls.map fun l=> .slc (l.map .str)))),(56,.c (.int .i64 ls.length)),(57,.c (.int .i64 i)),(61,.c (.slc (l.map .str))),(62,.c (.int .i64 l.length)),(63,.c (.int .i64 k.1))],fob [(216,.row 5 1 ((eF (ls.take i)++eT (l.take k.1)).map cQ))])) 500 (fun k=>l.length-k.1) ⟨0,by omega⟩ (aS (by omega) (by simp[bK,fin_at,finA_at,upd_at,HV.men,HV.menL,HV.norm,HV.toC,HV.toCL]) (by simp[bM,fob_at,upd_at,none0_at,bY,HO.men,HV.men,HV.menL,HV.norm,HV.toC,HV.toCL])) ?_;rintro⟨k,hk'⟩;have hsw:=aE7 (l.take k);have hst2:=mW l k;refine aD fun K hK=>aC (by kernel_rfl) ?_;simp (maxSteps:=4000000) only[↓sP,sA,tyS,simprocAttr];repeat refine AI ?_
  refine hK _ _ _ ?_;clear hK K;refine aD fun K hK=>?_;refine aQ (b:=decide ((k:Int)<l.length)) rfl (fun hb=>?_) (fun hb=>?_)
  ·
   have hlk:k<l.length:=by simpa using hb
   clear hb;have hw2:=hl2 l[k] (List.getElem_mem hlk);have hel:=mU l[k];have hsz:=kI l[k];have hsp:=tX l[k];have hpe:0<(fE l[k]).length:=by omega
   have htk:=tY hlk;have hbe:(eF (ls.take i)).length+(eT (l.take k)).length+(fE l[k]).length≤140737488355328:=by omega
   have hbe1:(eF (ls.take i)).length+(eT (l.take k)).length+1+(fE l[k]).length≤140737488355328:=by omega
   refine aV ?_;simp (maxSteps:=4000000) only[↓sP,sA,tyS,simprocAttr];repeat refine AI ?_
   refine hK _ _ _ ?_;clear hK K;refine aD fun K hK=>?_;refine bE ?_;refine aD fun K hK=>aC (by kernel_rfl) ?_;simp only[sR,simprocAttr];iterate 5
    (refine aB (g:=none) rfl rfl fun K' hK'=>?_;simp only[sH,↓sP,sA,tyS,simprocAttr,Int.natCast_nonneg,Int.ofNat_lt,hlk,bN hlk];(repeat refine AI ?_);refine hK' _ _ ?_;clear hK' K')
   simp only[sE,↓reduceIte,simprocAttr];repeat refine AI ?_
   refine hK _ _ _ ?_;clear hK K;refine aD fun K hK=>?_;refine aD fun K hK=>aC (by kernel_rfl) ?_;simp (maxSteps:=4000000) only[↓sP,sA,tyS,simprocAttr];repeat refine AI ?_
   refine hK _ _ _ ?_;clear hK K;refine aQ (b:=decide ((0:Int)<k)) rfl (fun hb=>?_) (fun hb=>?_)
   ·
    refine aC (by kernel_rfl) ?_;simp only[sR,simprocAttr];iterate 4
     (refine aB (g:=none) rfl rfl fun K' hK'=>?_;simp only[sH,↓sP,sA,tyS,simprocAttr,List.length_append,List.length_map];(repeat refine AI ?_);refine hK' _ _ ?_;clear hK' K')
    simp only[sE,↓reduceIte,simprocAttr];repeat refine AI ?_
    refine hK _ _ _ ?_;clear hK K;refine aC (by kernel_rfl) ?_;simp only[sR,simprocAttr];iterate 2
     (refine aB (g:=none) rfl rfl fun K' hK'=>?_;simp only[sH,↓sP,sA,tyS,simprocAttr,List.length_append,List.length_map,hpe,hbe,hbe1];(repeat refine AI ?_);refine hK' _ _ ?_;clear hK' K')
    refine aB (g:=none) rfl rfl fun K' hK'=>?_;simp (maxSteps:=4000000) only[sH,↓sP,sA,tyS,simprocAttr,List.length_append,List.length_map,hpe,hbe,hbe1];refine bH (args:=[_]) (aF4 l[k] (by omega)) ⟨rfl,rfl,rfl,rfl⟩ ?_;rintro u rfl;repeat refine AI ?_
    refine hK' _ _ ?_;clear hK' K';iterate 2
     (refine aB (g:=none) rfl rfl fun K' hK'=>?_;simp only[sH,↓sP,sA,tyS,simprocAttr,List.length_append,List.length_map,hpe,hbe,hbe1];(repeat refine AI ?_);refine hK' _ _ ?_;clear hK' K')
    simp only[sE,↓reduceIte,simprocAttr];repeat refine AI ?_
    refine hK _ _ _ ?_;clear hK K;refine aC (by kernel_rfl) ?_;simp (maxSteps:=4000000) only[↓sP,sA,tyS,simprocAttr,IntWalk.i64_in _ (show-9223372036854775808≤(k:Int)+1∧(k:Int)+1≤9223372036854775807 by omega)];have hk0:k≠0:=by simp at hb;omega
    refine⟨⟨k+1,hlk⟩,aS (by omega) ?_ ?_,?_⟩
    · rw[htk,if_neg hk0];simp[bK,upd_at,fin_at,HV.men];omega
    · rw[htk,if_neg hk0];simp only[List.map_append,←List.append_assoc];exact⟨rfl,by omega,trivial,trivial⟩
    show l.length-(k+1)<l.length-k;omega
   refine aV ?_;simp (maxSteps:=4000000) only[↓sP,sA,tyS,simprocAttr];repeat refine AI ?_
   refine hK _ _ _ ?_;clear hK K;refine aC (by kernel_rfl) ?_;simp only[sR,simprocAttr];iterate 2
    (refine aB (g:=none) rfl rfl fun K' hK'=>?_;simp only[sH,↓sP,sA,tyS,simprocAttr,List.length_append,List.length_map,hpe,hbe,hbe1];(repeat refine AI ?_);refine hK' _ _ ?_;clear hK' K')
   refine aB (g:=none) rfl rfl fun K' hK'=>?_;simp (maxSteps:=4000000) only[sH,↓sP,sA,tyS,simprocAttr,List.length_append,List.length_map,hpe,hbe,hbe1];refine bH (args:=[_]) (aF4 l[k] (by omega)) ⟨rfl,rfl,rfl,rfl⟩ ?_;rintro u rfl;repeat refine AI ?_
   refine hK' _ _ ?_;clear hK' K';iterate 2
    (refine aB (g:=none) rfl rfl fun K' hK'=>?_;simp only[sH,↓sP,sA,tyS,simprocAttr,List.length_append,List.length_map,hpe,hbe,hbe1];(repeat refine AI ?_);refine hK' _ _ ?_;clear hK' K')
   simp only[sE,↓reduceIte,simprocAttr];repeat refine AI ?_
   refine hK _ _ _ ?_;clear hK K;refine aC (by kernel_rfl) ?_;simp (maxSteps:=4000000) only[↓sP,sA,tyS,simprocAttr,IntWalk.i64_in _ (show-9223372036854775808≤(k:Int)+1∧(k:Int)+1≤9223372036854775807 by omega)];have hk0:k=0:=by simp at hb;omega
   refine⟨⟨k+1,hlk⟩,aS (by omega) ?_ ?_,?_⟩
   · rw[htk,if_pos hk0];simp[bK,upd_at,fin_at,HV.men];omega
   · rw[htk,if_pos hk0,List.nil_append];simp only[List.map_append,←List.append_assoc];exact⟨rfl,by omega,trivial,trivial⟩
   show l.length-(k+1)<l.length-k;omega
  have hek:k=l.length:=by simp at hb;omega
  subst hek;clear hb;rw[List.take_length]at*;refine bW ?_;simp (maxSteps:=4000000) only[↓sP,sA,tyS,simprocAttr];clear hK K;repeat refine AI ?_
  refine hK _ _ _ ?_;clear hK K;refine aC (by kernel_rfl) ?_;simp only[sR,simprocAttr];iterate 4
   (refine aB (g:=none) rfl rfl fun K' hK'=>?_;simp only[sH,↓sP,sA,tyS,simprocAttr,List.length_append,List.length_map];(repeat refine AI ?_);refine hK' _ _ ?_;clear hK' K')
  simp only[sE,↓reduceIte,simprocAttr];repeat refine AI ?_
  refine hK _ _ _ ?_;clear hK K;refine aC (by kernel_rfl) ?_;simp (maxSteps:=4000000) only[↓sP,sA,tyS,simprocAttr,IntWalk.i64_in _ (show-9223372036854775808≤(i:Int)+1∧(i:Int)+1≤9223372036854775807 by omega)];refine⟨⟨i+1,hlt⟩,aS (by omega) ?_ ?_,?_⟩
  · rw[hdt1,sX];simp[bK,upd_at,fin_at,HV.men];omega
  · rw[hdt1,sX];simp only[List.map_append,←List.append_assoc];exact⟨rfl,by omega,trivial,trivial⟩
  show ls.length-(i+1)<ls.length-i;omega
 refine bW ?_;simp (maxSteps:=4000000) only[↓sP,sA,tyS,simprocAttr];clear hK K;repeat refine AI ?_
 refine hK _ _ _ ?_;clear hK K;refine aD fun K hK=>aC (by kernel_rfl) ?_;simp (maxSteps:=4000000) only[↓sP,sA,tyS,simprocAttr];repeat refine AI ?_
 refine hK _ _ _ ?_;clear hK K;refine aT ?_;simp (maxSteps:=4000000) only[bA,Tryz.results16,aY,aZ,aX,↓sP,sA,tyS,simprocAttr];have hei:i=ls.length:=by simp at hb;omega
 subst hei;refine aW [216] (.slc ((eF ls).map cQ)) (.int .i64 0) ?_ ⟨by rw[hO],by rw[hE]⟩;rw[List.take_length];simp[HV.close,fob_at,upd_at,HV.norm,HV.toC,HV.closeL,HV.toCL,List.take_of_length_le,CV.denil,dI]
theorem xW (w:aU)(hl:w.length<2^40):cL Tryz.prog 34 [.str w] (fun v=>v= .str (fE w)):=by
 refine bI Tryz.func34 rfl (by kernel_rfl) (bJ _) (Nat.le_of_ble_eq_true rfl) ?_;refine aD fun K hK=>aC (by kernel_rfl) ?_;simp (maxSteps:=4000000) only[↓sP,sA,tyS,simprocAttr];repeat refine AI ?_
 refine hK _ _ _ ?_;clear hK K;refine aD fun K hK=>?_;refine aD fun K hK=>aC (by kernel_rfl) ?_;simp (maxSteps:=4000000) only[↓sP,sA,tyS,simprocAttr];repeat refine AI ?_
 refine hK _ _ _ ?_;clear hK K;refine aQ (b:=w==[]) rfl (fun hb=>?_) (fun hb=>?_)
 ·
  refine aD fun K hK=>aC (by kernel_rfl) ?_;simp (maxSteps:=4000000) only[↓sP,sA,tyS,simprocAttr];repeat refine AI ?_
  refine hK _ _ _ ?_;clear hK K;refine aT ?_;simp (maxSteps:=4000000) only[bA,Tryz.results34,aY,aZ,aX,↓sP,sA,tyS,simprocAttr];exact bF [] (.str [126]) rfl (by rw[fE,if_pos (by simpa using hb)])
 refine aV ?_;simp (maxSteps:=4000000) only[↓sP,sA,tyS,simprocAttr];repeat refine AI ?_
 refine hK _ _ _ ?_;clear hK K;have hne:w≠[]:=by simpa using hb
 clear hb;refine aD fun K hK=>aC (by kernel_rfl) ?_;simp (maxSteps:=4000000) only[↓sP,sA,tyS,simprocAttr];repeat refine AI ?_
 refine hK _ _ _ ?_;clear hK K;refine aD fun K hK=>aC (by kernel_rfl) ?_;simp (maxSteps:=4000000) only[↓sP,sA,tyS,simprocAttr];repeat refine AI ?_
 refine hK _ _ _ ?_;clear hK K;refine aD fun K hK=>?_;refine aD fun K hK=>aC (by kernel_rfl) ?_;simp (maxSteps:=4000000) only[↓sP,sA,tyS,simprocAttr];repeat refine AI ?_
 refine hK _ _ _ ?_;clear hK K;refine bE ?_;refine iD 4 0 5 1 rfl rfl rfl rfl ?_;refine cA (α:={i:Nat//i≤w.length}) (fun i=>(fin [(0,.c (.str w)),(3,.c (.str [48,49,50,51,52,53,54,55,56,57,65,66,67,68,69,70])),(4,.own 24 (cI (w.take i.1)).length),(5,.c (.int .i64 i.1))],fob [(24,.row 5 1 ((cI (w.take i.1)).map cQ))])) 100 (fun i=>w.length-i.1) ⟨0,by omega⟩ (aS (by omega) (by simp[bK,fin_at,finA_at,upd_at,HV.men,HV.menL,HV.norm,HV.toC,HV.toCL]) (by simp[bM,fob_at,upd_at,none0_at,bY,HO.men,HV.men,HV.menL,HV.norm,HV.toC,HV.toCL])) ?_;rintro⟨i,hi⟩;have hle:=iE w i;have hle3:=mT w;refine aD fun K hK=>?_;refine aD fun K hK=>aC (by kernel_rfl) ?_;simp only[sR,simprocAttr];iterate 4
  (refine aB (g:=none) rfl rfl fun K' hK'=>?_;simp only[sH,↓sP,sA,tyS,simprocAttr];(repeat refine AI ?_);refine hK' _ _ ?_;clear hK' K')
 simp only[sE,↓reduceIte,simprocAttr];repeat refine AI ?_
 refine hK _ _ _ ?_;clear hK K;refine aQ (b:=decide ((i:Int)<w.length)) rfl (fun hb=>?_) (fun hb=>?_)
 ·
  have hlt:i<w.length:=by simpa using hb
  have hgd:w.getD i 0=w[i]:=by simp[hlt]
  have hs:=lV hlt;refine aV ?_;simp (maxSteps:=4000000) only[↓sP,sA,tyS,simprocAttr];repeat refine AI ?_
  refine hK _ _ _ ?_;clear hK K;refine aD fun K hK=>?_;refine bE ?_;refine aD fun K hK=>aC (by kernel_rfl) ?_;simp only[sR,simprocAttr];iterate 3
   (refine aB (g:=none) rfl rfl fun K' hK'=>?_;simp only[sH,↓sP,sA,tyS,simprocAttr,Int.natCast_nonneg,Int.ofNat_lt,hlt,hgd];(repeat refine AI ?_);refine hK' _ _ ?_;clear hK' K')
  refine aB (g:=none) rfl rfl fun K' hK'=>?_;simp (maxSteps:=4000000) only[sH,↓sP,sA,tyS,simprocAttr,Int.natCast_nonneg,Int.ofNat_lt,hlt,hgd];refine bH (args:=[_]) (oN w[i]) ⟨rfl,rfl,rfl,rfl⟩ ?_;rintro u rfl;repeat refine AI ?_
  refine hK' _ _ ?_;clear hK' K';simp only[sE,↓reduceIte,simprocAttr];repeat refine AI ?_
  refine hK _ _ _ ?_;clear hK K;refine aQ (b:=cF w[i]) rfl (fun hb=>?_) (fun hb=>?_)
  ·
   refine aC (by kernel_rfl) ?_;simp only[sR,simprocAttr];iterate 7
    (refine aB (g:=none) rfl rfl fun K' hK'=>?_;simp only[sH,↓sP,sA,tyS,simprocAttr,Int.natCast_nonneg,Int.ofNat_lt,hlt,hgd,List.length_append,List.length_map];(repeat refine AI ?_);refine hK' _ _ ?_;clear hK' K')
   simp only[sE,↓reduceIte,simprocAttr];repeat refine AI ?_
   refine hK _ _ _ ?_;clear hK K;refine aC (by kernel_rfl) ?_;simp (maxSteps:=4000000) only[↓sP,sA,tyS,simprocAttr,IntWalk.i64_in _ (show-9223372036854775808≤(i:Int)+1∧(i:Int)+1≤9223372036854775807 by omega)];refine⟨⟨i+1,hlt⟩,aS (by omega) ?_ ?_,?_⟩
   · rw[hs,gA,if_pos hb];simp[bK,upd_at,fin_at,HV.men]
   · rw[hs,gA,if_pos hb,List.map_append];exact⟨rfl,by omega,trivial,trivial⟩
   show w.length-(i+1)<w.length-i;omega
  have h16:((w[i].toNat/16:Nat):Int)<16:=by have:=w[i].toNat_lt;omega
  have h15:((w[i].toNat%16:Nat):Int)<16:=by omega
  refine eL mixed [(0,[],[]),(1,[],[]),(2,[],[]),(3,[],[]),(4,[],[]),(5,[],[]),(6,[],[]),(7,[],[]),(8,[],[]),(9,[],[]),(10,[],[]),(11,[],[]),(12,[],[]),(13,[],[]),(14,[],[]),(15,[],[])] [0,0,0,0,12,28,62,0,0,0,768,1792,3968,8190,16383,32767] (by kernel_rfl) (by kernel_rfl) (by kernel_rfl) (by kernel_rfl) rfl (by kernel_rfl) ?_;iterate 16
   (refine bR (g:=none) rfl rfl fun K' hK'=>?_;simp only[sH,↓sP,sA,tyS,simprocAttr,Int.natCast_nonneg,Int.ofNat_lt,hlt,hgd,List.length_append,List.length_map,bD4,aR5,h16,h15];(repeat refine AI ?_);refine hK' _ _ ?_;clear hK' K')
  simp only[sE,↓reduceIte,simprocAttr];repeat refine AI ?_
  refine hK _ _ _ ?_;clear hK K;refine aC (by kernel_rfl) ?_;simp (maxSteps:=4000000) only[↓sP,sA,tyS,simprocAttr,IntWalk.i64_in _ (show-9223372036854775808≤(i:Int)+1∧(i:Int)+1≤9223372036854775807 by omega)];refine⟨⟨i+1,hlt⟩,aS (by omega) ?_ ?_,?_⟩
  · rw[hs,gA,if_neg (by rw[hb];simp)];simp[bK,upd_at,fin_at,HV.men]
  · rw[hs,gA,if_neg (by rw[hb];simp),List.map_append];exact⟨rfl,by omega,trivial,trivial⟩
  show w.length-(i+1)<w.length-i;omega
 refine bW ?_;simp (maxSteps:=4000000) only[↓sP,sA,tyS,simprocAttr];clear hK K;repeat refine AI ?_
 refine hK _ _ _ ?_;clear hK K;refine eK [24] (cN (fr2:=fin [(4,.c (.slc ((cI (w.take i)).map cQ)))]) (ob2:=fob []) (nx2:=200) (aS (by omega) (by simp[bK,iB,fin_at,finA_at,upd_at,fob_at,HV.close,HV.closeL,CV.denil,CV.denilL,dI,HV.men,HV.menL,HV.norm,HV.toC,HV.toCL]) (by simp[bM,iC,fob_at,upd_at,none0_at,bY,HO.close,HV.close,HV.closeL,HO.men,HV.men,HV.menL,HV.norm,HV.toC,HV.toCL])) ?_);refine aD fun K hK=>aC (by kernel_rfl) ?_;simp (maxSteps:=4000000) only[↓sP,sA,tyS,simprocAttr,bytesC_map];repeat refine AI ?_
 refine hK _ _ _ ?_;clear hK K;refine aT ?_;simp (maxSteps:=4000000) only[bA,Tryz.results34,aY,aZ,aX,↓sP,sA,tyS,simprocAttr];have hei:i=w.length:=by simp at hb;omega
 subst hei;exact bF [] (.str (cI w)) (by rw[List.take_length];rfl) (by rw[fE,if_neg hne])
theorem aF5 (ls:List (List aU))(h0:ls.length<2^40)(h1: ∀l∈ls,l.length<2^40):eD Tryz.prog 17 [.slc (ls.map fun l=> .slc (l.map .str))] (fun u v=>u= .slc ((lW ls).map cQ)∧v= .int .i64 (gB ls)):=by
 refine bI Tryz.func17 rfl (by kernel_rfl) (bJ _) (Nat.le_of_ble_eq_true rfl) ?_;refine aD fun K hK=>aC (by kernel_rfl) ?_;simp (maxSteps:=4000000) only[↓sP,sA,tyS,simprocAttr];repeat refine AI ?_
 refine hK _ _ _ ?_;clear hK K;refine aD fun K hK=>?_;refine aD fun K hK=>aC (by kernel_rfl) ?_;simp (maxSteps:=4000000) only[↓sP,sA,tyS,simprocAttr];repeat refine AI ?_
 refine hK _ _ _ ?_;clear hK K;refine aQ (b:=decide ((1000:Int)<ls.length)) rfl (fun hb=>?_) (fun hb=>?_)
 ·
  refine aD fun K hK=>aC (by kernel_rfl) ?_;simp (maxSteps:=4000000) only[↓sP,sA,tyS,simprocAttr];repeat refine AI ?_
  refine hK _ _ _ ?_;clear hK K;refine aT ?_;simp (maxSteps:=4000000) only[bA,Tryz.results17,aY,aZ,aX,↓sP,sA,tyS,simprocAttr];have hE:=oL (ls:=ls) (by simp at hb;omega);refine aW [] (.slc []) (.int .i64 3) ?_ ⟨by rw[fQ (by rw[hE];decide)];rfl,by rw[hE]⟩;simp[HV.close,HV.closeL,CV.denil,CV.denilL,HV.norm,HV.toC,HV.toCL]
 refine aV ?_;simp (maxSteps:=4000000) only[↓sP,sA,tyS,simprocAttr];repeat refine AI ?_
 refine hK _ _ _ ?_;clear hK K;have hn:ls.length≤1000:=by simp at hb;omega
 clear hb;refine aD fun K hK=>aC (by kernel_rfl) ?_;simp (maxSteps:=4000000) only[↓sP,sA,tyS,simprocAttr];repeat refine AI ?_
 refine hK _ _ _ ?_;clear hK K;refine aD fun K hK=>?_;refine aD fun K hK=>aC (by kernel_rfl) ?_;simp (maxSteps:=4000000) only[↓sP,sA,tyS,simprocAttr];repeat refine AI ?_
 refine hK _ _ _ ?_;clear hK K;refine bE ?_;refine iD 4 0 5 1 rfl rfl rfl rfl ?_;refine cA (α:={i:Nat//i≤ls.length∧ ∀x∈ls.take i,okL x=true}) (fun i=>(fin [(0,.c (.slc (ls.map fun l=> .slc (l.map .str)))),(4,.own 28 (eF (ls.take i.1)).length),(5,.c (.int .i64 i.1))],fob [(28,.row 5 1 ((eF (ls.take i.1)).map cQ))])) 100 (fun i=>ls.length-i.1) ⟨0,by omega,by simp⟩ (aS (by omega) (by simp[bK,fin_at,finA_at,upd_at,HV.men,HV.menL,HV.norm,HV.toC,HV.toCL]) (by simp[bM,fob_at,upd_at,none0_at,bY,HO.men,HV.men,HV.menL,HV.norm,HV.toC,HV.toCL])) ?_;rintro⟨i,hi,hk⟩;refine aD fun K hK=>?_;refine aD fun K hK=>aC (by kernel_rfl) ?_;simp only[sR,simprocAttr];iterate 4
  (refine aB (g:=none) rfl rfl fun K' hK'=>?_;simp only[sH,↓sP,sA,tyS,simprocAttr];(repeat refine AI ?_);refine hK' _ _ ?_;clear hK' K')
 simp only[sE,↓reduceIte,simprocAttr];repeat refine AI ?_
 refine hK _ _ _ ?_;clear hK K;refine aQ (b:=decide ((i:Int)<ls.length)) rfl (fun hb=>?_) (fun hb=>?_)
 ·
  have hlt:i<ls.length:=by simpa using hb
  clear hb;have hl1:=h1 ls[i] (List.getElem_mem hlt);have hne: ∀l∈ls.take i,l≠[]:=fun l hl=>((gU l).1 (hk l hl)).1;have hsd:=aE9 hk;rw[List.length_take]at hsd;have hdl:=mV hne;have hdt1:=tZ hlt;obtain⟨l,hl⟩: ∃l,l=ls[i]:=⟨_,rfl⟩;have hln:nth (ls.map fun l=>CV.slc (l.map .str)) i= .slc (l.map .str):=by rw[bN hlt,hl]
  rw[←hl]at hdt1 hl1;have hlti:(i:Int)<ls.length:=by omega
  refine aV ?_;simp (maxSteps:=4000000) only[↓sP,sA,tyS,simprocAttr];repeat refine AI ?_
  refine hK _ _ _ ?_;clear hK K;refine aD fun K hK=>?_;refine bE ?_;refine aD fun K hK=>?_;refine aD fun K hK=>aC (by kernel_rfl) ?_;simp only[sR,simprocAttr];iterate 6
   (refine aB (g:=none) rfl rfl fun K' hK'=>?_;simp only[sH,↓sP,sA,tyS,simprocAttr,Int.natCast_nonneg,Int.ofNat_lt,hlt,hln];(repeat refine AI ?_);refine hK' _ _ ?_;clear hK' K')
  simp only[sE,↓reduceIte,simprocAttr];repeat refine AI ?_
  refine hK _ _ _ ?_;clear hK K;refine aQ (b:=(l.length:Int)==0) rfl (fun hb=>?_) (fun hb=>?_)
  ·
   refine aD fun K hK=>aC (by kernel_rfl) ?_;simp (maxSteps:=4000000) only[↓sP,sA,tyS,simprocAttr];repeat refine AI ?_
   refine hK _ _ _ ?_;clear hK K;refine aT ?_;simp (maxSteps:=4000000) only[bA,Tryz.results17,aY,aZ,aX,↓sP,sA,tyS,simprocAttr];have hc:jB l=1:=by rw[jB,if_pos (by simp at hb;simp[hb])]
   have hE:=mX hn hlt hk (by rw[←hl,okL,hc];rfl);rw[←hl,hc]at hE;refine aW [] (.slc []) (.int .i64 1) ?_ ⟨by rw[fQ (by rw[hE];decide)];rfl,by rw[hE]⟩;simp[HV.close,HV.closeL,CV.denil,CV.denilL,HV.norm,HV.toC,HV.toCL]
  refine aV ?_;simp (maxSteps:=4000000) only[↓sP,sA,tyS,simprocAttr];repeat refine AI ?_
  refine hK _ _ _ ?_;clear hK K;refine aD fun K hK=>?_;have hn0:l.length≠0:=by simp at hb;simp[hb]
  clear hb;refine aD fun K hK=>aC (by kernel_rfl) ?_;simp only[sR,simprocAttr];iterate 6
   (refine aB (g:=none) rfl rfl fun K' hK'=>?_;simp only[sH,↓sP,sA,tyS,simprocAttr,Int.natCast_nonneg,Int.ofNat_lt,hlt,hln];(repeat refine AI ?_);refine hK' _ _ ?_;clear hK' K')
  simp only[sE,↓reduceIte,simprocAttr];repeat refine AI ?_
  refine hK _ _ _ ?_;clear hK K;refine aQ (b:=decide ((120:Int)<l.length)) rfl (fun hb=>?_) (fun hb=>?_)
  ·
   refine aD fun K hK=>aC (by kernel_rfl) ?_;simp (maxSteps:=4000000) only[↓sP,sA,tyS,simprocAttr];repeat refine AI ?_
   refine hK _ _ _ ?_;clear hK K;refine aT ?_;simp (maxSteps:=4000000) only[bA,Tryz.results17,aY,aZ,aX,↓sP,sA,tyS,simprocAttr];have hc:jB l=3:=by rw[jB,if_neg hn0,if_pos (by simp at hb;omega)]
   have hE:=mX hn hlt hk (by rw[←hl,okL,hc];rfl);rw[←hl,hc]at hE;refine aW [] (.slc []) (.int .i64 3) ?_ ⟨by rw[fQ (by rw[hE];decide)];rfl,by rw[hE]⟩;simp[HV.close,HV.closeL,CV.denil,CV.denilL,HV.norm,HV.toC,HV.toCL]
  refine aV ?_;simp (maxSteps:=4000000) only[↓sP,sA,tyS,simprocAttr];repeat refine AI ?_
  refine hK _ _ _ ?_;clear hK K;refine aD fun K hK=>?_;have hn1:l.length≤120:=by simp at hb;omega
  clear hb;refine aD fun K hK=>aC (by kernel_rfl) ?_;simp (maxSteps:=4000000) only[↓sP,sA,tyS,simprocAttr];repeat refine AI ?_
  refine hK _ _ _ ?_;clear hK K;refine bE ?_;refine cA (α:={k:Nat//k≤l.length∧ ∀x∈l.take k,x.length≤32768}) (fun k=>(fin [(0,.c (.slc (ls.map fun l=> .slc (l.map .str)))),(4,.own 28 (eF (ls.take i)++eT (l.take k.1)).length),(5,.c (.int .i64 i)),(6,.c (.int .i64 k.1))],fob [(28,.row 5 1 ((eF (ls.take i)++eT (l.take k.1)).map cQ))])) 200 (fun k=>l.length-k.1) ⟨0,by omega,by simp⟩ (aS (by omega) (by simp[bK,fin_at,finA_at,upd_at,HV.men,HV.menL,HV.norm,HV.toC,HV.toCL]) (by simp[bM,fob_at,upd_at,none0_at,bY,HO.men,HV.men,HV.menL,HV.norm,HV.toC,HV.toCL])) ?_;rintro⟨k,hk',hkw⟩;have hsw:=aR7 (l.take k) hkw;rw[List.length_take]at hsw;refine aD fun K hK=>?_;refine aD fun K hK=>aC (by kernel_rfl) ?_;simp only[sR,simprocAttr];iterate 7
   (refine aB (g:=none) rfl rfl fun K' hK'=>?_;simp only[sH,↓sP,sA,tyS,simprocAttr,Int.natCast_nonneg,hlti,hln];(repeat refine AI ?_);refine hK' _ _ ?_;clear hK' K')
  simp only[sE,↓reduceIte,simprocAttr];repeat refine AI ?_
  refine hK _ _ _ ?_;clear hK K;refine aQ (b:=decide ((k:Int)<l.length)) rfl (fun hb=>?_) (fun hb=>?_)
  ·
   have hlk:k<l.length:=by simpa using hb
   clear hb;refine aV ?_;simp (maxSteps:=4000000) only[↓sP,sA,tyS,simprocAttr];repeat refine AI ?_
   refine hK _ _ _ ?_;clear hK K;refine aD fun K hK=>?_;refine bE ?_;refine aD fun K hK=>?_;refine aD fun K hK=>aC (by kernel_rfl) ?_;simp only[sR,simprocAttr];iterate 9
    (refine aB (g:=none) rfl rfl fun K' hK'=>?_;simp only[sH,↓sP,sA,tyS,simprocAttr,Int.natCast_nonneg,Int.ofNat_lt,hlt,hln,hlk,bN hlk];(repeat refine AI ?_);refine hK' _ _ ?_;clear hK' K')
   simp only[sE,↓reduceIte,simprocAttr];repeat refine AI ?_
   refine hK _ _ _ ?_;clear hK K;refine aQ (b:=decide ((32768:Int)<l[k].length)) rfl (fun hb=>?_) (fun hb=>?_)
   ·
    refine aD fun K hK=>aC (by kernel_rfl) ?_;simp (maxSteps:=4000000) only[↓sP,sA,tyS,simprocAttr];repeat refine AI ?_
    refine hK _ _ _ ?_;clear hK K;refine aT ?_;simp (maxSteps:=4000000) only[bA,Tryz.results17,aY,aZ,aX,↓sP,sA,tyS,simprocAttr];have hc:jB l=3:=by rw[jB,if_neg hn0,if_neg (by omega),if_pos];simp only[List.any_eq_true,decide_eq_true_eq];exact⟨_,List.getElem_mem hlk,by simp at hb;omega⟩
    have hE:=mX hn hlt hk (by rw[←hl,okL,hc];rfl);rw[←hl,hc]at hE;refine aW [] (.slc []) (.int .i64 3) ?_ ⟨by rw[fQ (by rw[hE];decide)];rfl,by rw[hE]⟩;simp[HV.close,HV.closeL,CV.denil,CV.denilL,HV.norm,HV.toC,HV.toCL]
   refine aV ?_;simp (maxSteps:=4000000) only[↓sP,sA,tyS,simprocAttr];repeat refine AI ?_
   refine hK _ _ _ ?_;clear hK K;refine aD fun K hK=>?_;have hw2:l[k].length≤32768:=by simp at hb;omega
   clear hb;have hel:=mU l[k];have hsz:=kI l[k];have hsp:=tX l[k];have hpe:0<(fE l[k]).length:=by omega
   have htk:=tY hlk;have hbe:(eF (ls.take i)).length+(eT (l.take k)).length+(fE l[k]).length≤140737488355328:=by omega
   have hbe1:(eF (ls.take i)).length+(eT (l.take k)).length+1+(fE l[k]).length≤140737488355328:=by omega
   refine aD fun K hK=>aC (by kernel_rfl) ?_;simp (maxSteps:=4000000) only[↓sP,sA,tyS,simprocAttr];repeat refine AI ?_
   refine hK _ _ _ ?_;clear hK K;refine aQ (b:=decide ((0:Int)<k)) rfl (fun hb=>?_) (fun hb=>?_)
   ·
    refine aC (by kernel_rfl) ?_;simp only[sR,simprocAttr];iterate 4
     (refine aB (g:=none) rfl rfl fun K' hK'=>?_;simp only[sH,↓sP,sA,tyS,simprocAttr,List.length_append,List.length_map];(repeat refine AI ?_);refine hK' _ _ ?_;clear hK' K')
    simp only[sE,↓reduceIte,simprocAttr];repeat refine AI ?_
    refine hK _ _ _ ?_;clear hK K;refine aC (by kernel_rfl) ?_;simp only[sR,simprocAttr];iterate 8
     (refine aB (g:=none) rfl rfl fun K' hK'=>?_;simp only[sH,↓sP,sA,tyS,simprocAttr,Int.natCast_nonneg,Int.ofNat_lt,hlt,hln,hlk,bN hlk,List.length_append,List.length_map,hpe,hbe,hbe1];(repeat refine AI ?_);refine hK' _ _ ?_;clear hK' K')
    refine aB (g:=none) rfl rfl fun K' hK'=>?_;simp (maxSteps:=4000000) only[sH,↓sP,sA,tyS,simprocAttr,Int.natCast_nonneg,Int.ofNat_lt,hlt,hln,hlk,bN hlk,List.length_append,List.length_map,hpe,hbe,hbe1];refine bH (args:=[_]) (xW l[k] (by omega)) ⟨rfl,rfl,rfl,rfl⟩ ?_;rintro u rfl;repeat refine AI ?_
    refine hK' _ _ ?_;clear hK' K';iterate 2
     (refine aB (g:=none) rfl rfl fun K' hK'=>?_;simp only[sH,↓sP,sA,tyS,simprocAttr,Int.natCast_nonneg,Int.ofNat_lt,hlt,hln,hlk,bN hlk,List.length_append,List.length_map,hpe,hbe,hbe1];(repeat refine AI ?_);refine hK' _ _ ?_;clear hK' K')
    simp only[sE,↓reduceIte,simprocAttr];repeat refine AI ?_
    refine hK _ _ _ ?_;clear hK K;refine aC (by kernel_rfl) ?_;simp (maxSteps:=4000000) only[↓sP,sA,tyS,simprocAttr,IntWalk.i64_in _ (show-9223372036854775808≤(k:Int)+1∧(k:Int)+1≤9223372036854775807 by omega)];have hk0:k≠0:=by simp at hb;omega
    refine⟨⟨k+1,hlk,oK (p:=fun x=>x.length≤32768) hlk hw2 hkw⟩,aS (by omega) ?_ ?_,?_⟩
    · rw[htk,if_neg hk0];simp[bK,upd_at,fin_at,HV.men];omega
    · rw[htk,if_neg hk0];simp only[List.map_append,←List.append_assoc];exact⟨rfl,by omega,trivial,trivial⟩
    show l.length-(k+1)<l.length-k;omega
   refine aV ?_;simp (maxSteps:=4000000) only[↓sP,sA,tyS,simprocAttr];repeat refine AI ?_
   refine hK _ _ _ ?_;clear hK K;refine aC (by kernel_rfl) ?_;simp only[sR,simprocAttr];iterate 8
    (refine aB (g:=none) rfl rfl fun K' hK'=>?_;simp only[sH,↓sP,sA,tyS,simprocAttr,Int.natCast_nonneg,Int.ofNat_lt,hlt,hln,hlk,bN hlk,List.length_append,List.length_map,hpe,hbe,hbe1];(repeat refine AI ?_);refine hK' _ _ ?_;clear hK' K')
   refine aB (g:=none) rfl rfl fun K' hK'=>?_;simp (maxSteps:=4000000) only[sH,↓sP,sA,tyS,simprocAttr,Int.natCast_nonneg,Int.ofNat_lt,hlt,hln,hlk,bN hlk,List.length_append,List.length_map,hpe,hbe,hbe1];refine bH (args:=[_]) (xW l[k] (by omega)) ⟨rfl,rfl,rfl,rfl⟩ ?_;rintro u rfl;repeat refine AI ?_
   refine hK' _ _ ?_;clear hK' K';iterate 2
    (refine aB (g:=none) rfl rfl fun K' hK'=>?_;simp only[sH,↓sP,sA,tyS,simprocAttr,Int.natCast_nonneg,Int.ofNat_lt,hlt,hln,hlk,bN hlk,List.length_append,List.length_map,hpe,hbe,hbe1];(repeat refine AI ?_);refine hK' _ _ ?_;clear hK' K')
   simp only[sE,↓reduceIte,simprocAttr];repeat refine AI ?_
   refine hK _ _ _ ?_;clear hK K;refine aC (by kernel_rfl) ?_;simp (maxSteps:=4000000) only[↓sP,sA,tyS,simprocAttr,IntWalk.i64_in _ (show-9223372036854775808≤(k:Int)+1∧(k:Int)+1≤9223372036854775807 by omega)];have hk0:k=0:=by simp at hb;omega
   refine⟨⟨k+1,hlk,oK (p:=fun x=>x.length≤32768) hlk hw2 hkw⟩,aS (by omega) ?_ ?_,?_⟩
   · rw[htk,if_pos hk0];simp[bK,upd_at,fin_at,HV.men];omega
   · rw[htk,if_pos hk0,List.nil_append];simp only[List.map_append,←List.append_assoc];exact⟨rfl,by omega,trivial,trivial⟩
   show l.length-(k+1)<l.length-k;omega
  have hek:k=l.length:=by simp at hb;omega
  subst hek;clear hb;rw[List.take_length]at*;have hokl:okL l=true:=(gU l).2 ⟨fun h=>hn0 (by rw[h];rfl),hn1,hkw⟩;refine bW ?_;simp (maxSteps:=4000000) only[↓sP,sA,tyS,simprocAttr];clear hK K;repeat refine AI ?_
  refine hK _ _ _ ?_;clear hK K;refine aC (by kernel_rfl) ?_;simp only[sR,simprocAttr];iterate 4
   (refine aB (g:=none) rfl rfl fun K' hK'=>?_;simp only[sH,↓sP,sA,tyS,simprocAttr,List.length_append,List.length_map,List.take_length];(repeat refine AI ?_);refine hK' _ _ ?_;clear hK' K')
  simp only[sE,↓reduceIte,simprocAttr];repeat refine AI ?_
  refine hK _ _ _ ?_;clear hK K;refine aC (by kernel_rfl) ?_;simp (maxSteps:=4000000) only[↓sP,sA,tyS,simprocAttr,IntWalk.i64_in _ (show-9223372036854775808≤(i:Int)+1∧(i:Int)+1≤9223372036854775807 by omega)];refine⟨⟨i+1,hlt,oK (p:=fun x=>okL x=true) hlt (by rw[←hl];exact hokl) hk⟩,aS (by omega) ?_ ?_,?_⟩
  · rw[hdt1,sX];simp[bK,upd_at,fin_at,HV.men];try omega
  · rw[hdt1,sX];simp only[List.map_append,←List.append_assoc,List.take_length];exact⟨rfl,by omega,trivial,trivial⟩
  show ls.length-(i+1)<ls.length-i;omega
 have hei:i=ls.length:=by simp at hb;omega
 subst hei;clear hb;rw[List.take_length]at hk;have hE:=vQ hn hk;refine bW ?_;simp (maxSteps:=4000000) only[↓sP,sA,tyS,simprocAttr];clear hK K;repeat refine AI ?_
 refine hK _ _ _ ?_;clear hK K;refine aD fun K hK=>?_;refine aD fun K hK=>aC (by kernel_rfl) ?_;simp (maxSteps:=4000000) only[↓sP,sA,tyS,simprocAttr,List.take_length,List.length_map];repeat refine AI ?_
 refine hK _ _ _ ?_;clear hK K;refine aQ (b:=decide ((262144:Int)<(eF ls).length)) rfl (fun hb=>?_) (fun hb=>?_)
 ·
  refine aD fun K hK=>aC (by kernel_rfl) ?_;simp (maxSteps:=4000000) only[↓sP,sA,tyS,simprocAttr];repeat refine AI ?_
  refine hK _ _ _ ?_;clear hK K;refine aT ?_;simp (maxSteps:=4000000) only[bA,Tryz.results17,aY,aZ,aX,↓sP,sA,tyS,simprocAttr];rw[if_pos (by simp at hb;omega)]at hE;refine aW [] (.slc []) (.int .i64 3) ?_ ⟨by rw[fQ (by rw[hE];decide)];rfl,by rw[hE]⟩;simp[HV.close,HV.closeL,CV.denil,CV.denilL,HV.norm,HV.toC,HV.toCL]
 refine aV ?_;simp (maxSteps:=4000000) only[↓sP,sA,tyS,simprocAttr];repeat refine AI ?_
 refine hK _ _ _ ?_;clear hK K;refine aD fun K hK=>aC (by kernel_rfl) ?_;simp (maxSteps:=4000000) only[↓sP,sA,tyS,simprocAttr];repeat refine AI ?_
 refine hK _ _ _ ?_;clear hK K;refine aT ?_;simp (maxSteps:=4000000) only[bA,Tryz.results17,aY,aZ,aX,↓sP,sA,tyS,simprocAttr];rw[if_neg (by simp at hb;omega)]at hE;refine aW [28] (.slc ((eF ls).map cQ)) (.int .i64 0) ?_ ⟨by rw[vR hE],by rw[hE]⟩;simp[HV.close,fob_at,upd_at,HV.norm,HV.toC,HV.closeL,HV.toCL,List.take_of_length_le,CV.denil,dI]
end Go.Proofs.YtflnfidkociekaaGreatDoor
namespace Go.Pl
open Go Go.Hl
theorem aR8 (l:List UInt8):(us l).denil=us l:=by simp only[us,CV.denil];rw[cP (f:=u8) (fun _=>rfl)]
variable {l:List UInt8}
theorem bD7 {n:Nat}(h:l.length=n):CV.getAt 0 n true (us l)=some (us l):=by
  have:=us_cells l;simp only[us,CV.cells]at this;simp only[us,CV.getAt,this,h,and_self,if_true]
theorem aY3 {i:Nat}(y:UInt8)(h:i<l.length)(h2:l.length≠1):CV.setAt i 1 (.c (.int .u8 (y.toNat:Int))) (us l)=some (.agg (((l.set i y).map u8).map .c)):=bD3 y h h2
@[simp] theorem bF5 (l:List W32)(i:Nat)(x:W32):CV.agg ((l.map w32).set i (w32 x))=ws (l.set i x):=by rw[←List.map_set];rfl
@[simp] theorem bF6 (l:List UInt8)(i:Nat)(x:UInt8):CV.agg ((l.map u8).set i (u8 x))=us (l.set i x):=by rw[←List.map_set];rfl
@[simp] theorem bI3 (b:List UInt8):wA b 0=wz 64:=rfl
@[simp] theorem bI4 (w:List W32):wB w 0=w:=rfl
def bI9 (s r:St)(j:Nat):List W32:=(s.l.zipWith (fun x y=>x+y) r.l).take j++s.l.drop j
@[simp] theorem bF7 (s r:St):bI9 s r 0=s.l:=rfl
section
variable {b:List UInt8}{j:Nat}(h0:64*j≤b.length)(h1:b.length<64*j+64)
include h0 h1
end
section
variable {b:List UInt8}{j:Nat}(h0:64*j≤b.length)(h1:b.length<64*j+64)
include h0 h1
end
@[simp] theorem bI5 (l:List UInt8):CV.agg (l.map u8)=us l:=rfl
def ob8 (s:St)(i:Nat):UInt8:=UInt8.ofNat ((gw s.l (i/4))>>>(24-8*(i%4))).toNat
def bJ0 (s:St)(n:Nat):List UInt8:=itN (fun i l=>l.set i (ob8 s i)) n (uz 32)
@[simp] theorem bF8 (s:St):bJ0 s 0=uz 32:=rfl
def bJ1 (h:rM):aU:=eG h.1
def vT (d:Dig):aU:=[115,104,97,50,53,54,58]++eG d.1
theorem aK8 (l:List UInt8):fA (l.map u8)=some l:=bytesC_map l
theorem jC (b:UInt8):fA [CV.int .u8 b.toNat]=some [b]:=bytesC_map [b]
def mZ (n:Int):aU:=Lib.itoa n
theorem aK9 :mZ 0=[48]:=by unfold mZ Lib.itoa;rw[if_neg (by omega)];simp[Lib.decDigits]
variable {n:Int}
theorem rS (h:0≤n):mZ n=Lib.decDigits n.natAbs:=by unfold mZ Lib.itoa;rw[if_neg (by omega)];congr 1;omega
theorem xX (h:n<0):mZ n=45::Lib.decDigits n.natAbs:=by unfold mZ Lib.itoa;rw[if_pos h]
theorem aR9 {v:Nat}(h:v≠0):Lib.decDigits v=(if v/10=0 then []else Lib.decDigits (v/10))++[UInt8.ofNat (48+v%10)]:=by
  by_cases h1:v<10
  · rw[Lib.decDigits,dif_pos h1,if_pos (by omega),show v%10=v by omega];rfl
  · rw[Lib.decDigits,dif_neg h1,if_neg (by omega)]
theorem vU {n:Int}(h:n<0)(h1: -9223372036854775808≤n):IntKind.u64.wrap (-(IntKind.u64.wrap n))=(n.natAbs:Int):=by
  have e:IntKind.u64.wrap n=n+18446744073709551616:=by
    have:IntKind.u64.wrap n=n%18446744073709551616:=by simp[IntKind.wrap,IntKind.bits,IntKind.signed]
    rw[this];omega
  rw[e];have: ∀m:Int,IntKind.u64.wrap m=m%18446744073709551616:=fun m=>by simp[IntKind.wrap,IntKind.bits,IntKind.signed]
  rw[this];omega
theorem aF6 {n:Int}(h:0≤n)(h1:n≤9223372036854775807):IntKind.u64.wrap n=(n.natAbs:Int):=by
  have:IntKind.u64.wrap n=n%18446744073709551616:=by simp[IntKind.wrap,IntKind.bits,IntKind.signed]
  rw[this];omega
theorem nA (v:Nat):IntKind.u8.wrap (IntKind.u64.wrap (48+Int.tmod (v:Int) 10))=((UInt8.ofNat (48+v%10)).toNat:Int):=by
  have h1:Int.tmod (v:Int) 10=((v%10:Nat):Int):=rfl;have h2:v%10<10:=Nat.mod_lt _ (by omega);rw[h1];generalize v%10=r at h2;rw[IntWalk.u64_in _ (by omega),IntWalk.u8_in _ (by omega),UInt8.toNat_ofNat',Nat.mod_eq_of_lt (by omega)];omega
theorem aY4 {v:Nat}(h:v<18446744073709551616):IntKind.u64.wrap (Int.tdiv (v:Int) 10)=((v/10:Nat):Int):=by
  rw[show Int.tdiv (v:Int) 10=((v/10:Nat):Int)from rfl,IntWalk.u64_in _ (by omega)]
theorem aS0 {u:Nat}(h:u<18446744073709551616):(Lib.decDigits u).length≤20:=by rw[Lib.decDigits_length];exact Lib.nDigits_le20 u h
inductive Av where
  |i (n:Int)
  |l (n:Int)
  |h (x:rM)
  |d (x:Dig)
  |s (w:aU)
def Av.w :Av→aU
  | .i n=>mZ n
  | .l n=>mZ n
  | .h x=>bJ1 x
  | .d x=>vT x
  | .s w=>w
def Av.ok :Av→Prop
  | .i n=> -9223372036854775808≤n∧n≤9223372036854775807
  | .l n=> -9223372036854775808≤n∧n≤9223372036854775807
  |_=>True
end Go.Pl
namespace Go.Proofs.YtflnfidkociekaaGreatDoor
open Go Go.Hl Go.Pl Go.RowKit Go.Shelf
set_option maxRecDepth 100000
def aY5 :Go.Shelf.Ren:=⟨fun|173=>30|246=>51|283=>68|284=>69|285=>70|286=>71|129=>89|317=>88|318=>90|319=>91|320=>92|337=>111|338=>112|n=>n,fun|2=>2|3=>3|9=>9|4=>4|171=>111|0=>0|53=>71|37=>28|5=>5|173=>114|212=>130|51=>131|20=>20|213=>132|46=>97|232=>22|233=>156|n=>n,fun|17=>1|18=>4|19=>5|n=>n⟩
theorem bD8 :Go.Proofs.LaysM.n173 Tryz.prog aY5:={
  mixed:=by kernel_rfl
  f129:=Tryz.func89.trans (congrArg some (by kernel_rfl))
  f173:=Tryz.func30.trans (congrArg some (by kernel_rfl))
  f246:=Tryz.func51.trans (congrArg some (by kernel_rfl))
  f283:=Tryz.func68.trans (congrArg some (by kernel_rfl))
  f284:=Tryz.func69.trans (congrArg some (by kernel_rfl))
  f285:=Tryz.func70.trans (congrArg some (by kernel_rfl))
  f286:=Tryz.func71.trans (congrArg some (by kernel_rfl))
  f317:=Tryz.func88.trans (congrArg some (by kernel_rfl))
  f318:=Tryz.func90.trans (congrArg some (by kernel_rfl))
  f319:=Tryz.func91.trans (congrArg some (by kernel_rfl))
  f320:=Tryz.func92.trans (congrArg some (by kernel_rfl))
  f337:=Tryz.func111.trans (congrArg some (by kernel_rfl))
  f338:=Tryz.func112.trans (congrArg some (by kernel_rfl))
  t0:=Tryz.underlying0
  a0:=Tryz.isAgg0
  z0:=Tryz.sizeOf0
  v0:=Tryz.zeroValue0
  t2:=Tryz.underlying2
  a2:=Tryz.isAgg2
  z2:=Tryz.sizeOf2
  v2:=Tryz.zeroValue2
  t3:=Tryz.underlying3
  a3:=Tryz.isAgg3
  z3:=Tryz.sizeOf3
  v3:=Tryz.zeroValue3
  t4:=Tryz.underlying4
  a4:=Tryz.isAgg4
  z4:=Tryz.sizeOf4
  v4:=Tryz.zeroValue4
  t5:=Tryz.underlying5
  a5:=Tryz.isAgg5
  z5:=Tryz.sizeOf5
  v5:=Tryz.zeroValue5
  t9:=Tryz.underlying9
  a9:=Tryz.isAgg9
  z9:=Tryz.sizeOf9
  v9:=Tryz.zeroValue9
  t20:=Tryz.underlying20
  a20:=Tryz.isAgg20
  z20:=Tryz.sizeOf20
  v20:=Tryz.zeroValue20
  t37:=Tryz.underlying28
  a37:=Tryz.isAgg28
  z37:=Tryz.sizeOf28
  v37:=Tryz.zeroValue28
  t46:=Tryz.underlying97
  a46:=Tryz.isAgg97
  z46:=Tryz.sizeOf97
  v46:=Tryz.zeroValue97
  t51:=Tryz.underlying131
  a51:=Tryz.isAgg131
  z51:=Tryz.sizeOf131
  v51:=Tryz.zeroValue131
  t53:=Tryz.underlying71
  a53:=Tryz.isAgg71
  z53:=Tryz.sizeOf71
  v53:=Tryz.zeroValue71
  t171:=Tryz.underlying111
  a171:=Tryz.isAgg111
  z171:=Tryz.sizeOf111
  v171:=Tryz.zeroValue111
  t173:=Tryz.underlying114
  a173:=Tryz.isAgg114
  z173:=Tryz.sizeOf114
  v173:=Tryz.zeroValue114
  t212:=Tryz.underlying130
  a212:=Tryz.isAgg130
  z212:=Tryz.sizeOf130
  v212:=Tryz.zeroValue130
  t213:=Tryz.underlying132
  a213:=Tryz.isAgg132
  z213:=Tryz.sizeOf132
  t232:=Tryz.underlying22
  a232:=Tryz.isAgg22
  z232:=Tryz.sizeOf22
  v232:=Tryz.zeroValue22
  t233:=Tryz.underlying156
  a233:=Tryz.isAgg156
  z233:=Tryz.sizeOf156
  v233:=Tryz.zeroValue156
  g17:=by kernel_rfl
  g18:=by kernel_rfl
  g19:=by kernel_rfl
  i0:=by kernel_rfl
  i2:=by kernel_rfl
  i3:=by kernel_rfl
  i4:=by kernel_rfl
  i5:=by kernel_rfl
  i9:=by kernel_rfl
  i20:=by kernel_rfl
  i37:=by kernel_rfl
  i46:=by kernel_rfl
  i51:=by kernel_rfl
  i53:=by kernel_rfl
  i171:=by kernel_rfl
  i173:=by kernel_rfl
  i212:=by kernel_rfl
  i232:=by kernel_rfl
  i233:=by kernel_rfl
  m17:=by kernel_rfl
  m18:=by kernel_rfl
  m19:=by kernel_rfl}
theorem vV :Tryz.prog.globalNamed "internal/strconv.uint64pow10" =some 1:=by kernel_rfl
def tabs :lD:=[(1,Lib.pow10Tab.map fun z=>Value.int .u64 z)]
theorem aL0 (n:Int)(h: -9223372036854775808≤n∧n≤9223372036854775807):lT Tryz.prog 30 tabs [.int .i64 n,.int .i64 10] (fun v=>v= .str (mZ n)):=
  aA7 (by kernel_rfl) vV (List.mem_cons_self) (fun w hw=>Any.strconv_FormatInt_10 bD8 n h.1 h.2 w hw)
end Go.Proofs.YtflnfidkociekaaGreatDoor
