/- Part of a proof: walks of functions of the program, by contracts, and the rules they use. By an AI agent. -/
import Derived.Test.YthedbjfipmkpiaaGreatDoorHlTop
import Derived.Test.YthedbjfipmkpiaaGreatDoorPl31
import Derived.Test.YthedbjfipmkpiaaGreatDoorHdUp
import Derived.Test.YthedbjfipmkpiaaGreatDoorHdV9
set_option linter.unusedSimpArgs false
set_option linter.unusedVariables false
set_option linter.defProp false
namespace Go.Proofs.YthedbjfipmkpiaaGreatDoor
open Go Go.Hl Go.Pl
set_option maxRecDepth 10000
set_option maxHeartbeats 16000000
variable {i:Nat}{α:Type}
theorem yC {a b:List α}(h1:i<a.length)(h2:i<b.length)(h:a.take i=b.take i)(e:a[i]=b[i]):a.take (i+1)=b.take (i+1):=by
 rw[List.take_succ_eq_append_getElem h1,List.take_succ_eq_append_getElem h2,h,e]
theorem yD {a b:List α}(hl:a.length=b.length)(h:a.take a.length=b.take a.length):a=b:=by
 rw[List.take_length,hl,List.take_length]at h;exact h
variable {x:Ln}
theorem cM7 {y:Ln}(h1:(x.k !=y.k)=false)(h2:(x.n !=y.n)=false)(h3:(x.d==y.d)=true)(h4:(x.f==y.f)=true):x=y:=by
 have e1:x.k=y.k:=by simpa using h1
 have e2:x.n=y.n:=by simpa using h2
 have e3:=eq_of_beq h3;have e4:=eq_of_beq h4;cases x;cases y;simp only at e1 e2 e3 e4;subst e1 e2 e3 e4;rfl
theorem bK6 (a b:aL):cF Tryz.prog 63 [.slc (a.map eR),.slc (b.map eR)] (fun v=>v= .bool (a==b)):=by
 refine bQ Tryz.func63 rfl (by kernel_rfl) (cR _) (Nat.le_of_ble_eq_true rfl) ?_;refine aC fun K hK=>aD (by kernel_rfl) ?_;simp (maxSteps:=4000000) only[↓sP,sA,tyS,simprocAttr];repeat refine AI ?_
 refine hK _ _ _ ?_;clear hK K;refine aC fun K hK=>aD (by kernel_rfl) ?_;simp only[sR,simprocAttr];iterate 6
  (refine aE (g:=none) rfl rfl fun K' hK'=>?_;simp only[sH,↓sP,sA,tyS,simprocAttr,bytesC_map];(repeat refine AI ?_);refine hK' _ _ ?_;clear hK' K')
 simp only[sE,↓reduceIte,simprocAttr];repeat refine AI ?_
 refine hK _ _ _ ?_;clear hK K;refine aH ?_;simp (maxSteps:=4000000) only[bK,Tryz.results63,bH,bJ,bG,↓sP,sA,tyS,simprocAttr];exact aK [] (.bool (a==b)) rfl rfl
theorem bW1 (a b:List Int)(ha:a.length<2^40):cF Tryz.prog 41 [.slc (a.map (CV.int .i64)),.slc (b.map (CV.int .i64))] (fun v=>v= .bool (a==b)):=by
 refine bQ Tryz.func41 rfl (by kernel_rfl) (cR _) (Nat.le_of_ble_eq_true rfl) ?_;refine aC fun K hK=>aD (by kernel_rfl) ?_;simp (maxSteps:=4000000) only[↓sP,sA,tyS,simprocAttr];repeat refine AI ?_
 refine hK _ _ _ ?_;clear hK K;refine aC fun K hK=>?_;refine aC fun K hK=>aD (by kernel_rfl) ?_;simp only[sR,simprocAttr];iterate 5
  (refine aE (g:=none) rfl rfl fun K' hK'=>?_;simp only[sH,↓sP,sA,tyS,simprocAttr];(repeat refine AI ?_);refine hK' _ _ ?_;clear hK' K')
 simp only[sE,↓reduceIte,simprocAttr];repeat refine AI ?_
 refine hK _ _ _ ?_;clear hK K;refine aJ (b:=!((a.length:Int)==(b.length:Int))) rfl (fun hb=>?_) (fun hb=>?_)
 ·
  refine aC fun K hK=>aD (by kernel_rfl) ?_;simp (maxSteps:=4000000) only[↓sP,sA,tyS,simprocAttr];repeat refine AI ?_
  refine hK _ _ _ ?_;clear hK K;refine aH ?_;simp (maxSteps:=4000000) only[bK,Tryz.results41,bH,bJ,bG,↓sP,sA,tyS,simprocAttr];have hne:a≠b:=by rintro rfl;simp at hb
  exact aK [] (.bool false) rfl (by rw[beq_false_of_ne hne])
 have hlen0:(a.length:Int)=b.length:=by simpa using hb
 have hlen:a.length=b.length:=by omega
 clear hb;refine aN ?_;simp (maxSteps:=4000000) only[↓sP,sA,tyS,simprocAttr];repeat refine AI ?_
 refine hK _ _ _ ?_;clear hK K;refine aC fun K hK=>?_;refine aC fun K hK=>aD (by kernel_rfl) ?_;simp (maxSteps:=4000000) only[↓sP,sA,tyS,simprocAttr];repeat refine AI ?_
 refine hK _ _ _ ?_;clear hK K;refine aO ?_;refine bP (α:={i:Nat//i≤a.length∧a.take i=b.take i}) (fun i=>(fin [(0,.c (.slc (a.map (CV.int .i64)))),(1,.c (.slc (b.map (CV.int .i64)))),(5,.c (.int .i64 i.1))],fob [])) 100 (fun i=>a.length-i.1) ⟨0,by omega,by simp⟩ (aM (by omega) (by simp[aW,fin_at,finA_at,upd_at,HV.men,HV.menL,HV.norm,HV.toC,HV.toCL]) (by simp[aX,fob_at,upd_at,none0_at,bI,HO.men,HV.men,HV.menL,HV.norm,HV.toC,HV.toCL])) ?_;rintro⟨i,hi,hpre⟩;refine aC fun K hK=>?_;refine aC fun K hK=>aD (by kernel_rfl) ?_;simp only[sR,simprocAttr];iterate 4
  (refine aE (g:=none) rfl rfl fun K' hK'=>?_;simp only[sH,↓sP,sA,tyS,simprocAttr];(repeat refine AI ?_);refine hK' _ _ ?_;clear hK' K')
 simp only[sE,↓reduceIte,simprocAttr];repeat refine AI ?_
 refine hK _ _ _ ?_;clear hK K;refine aJ (b:=decide ((i:Int)<a.length)) rfl (fun hb=>?_) (fun hb=>?_)
 ·
  have hlt:i<a.length:=by simpa using hb
  have hlt2:i<b.length:=by omega
  clear hb;refine aN ?_;simp (maxSteps:=4000000) only[↓sP,sA,tyS,simprocAttr];repeat refine AI ?_
  refine hK _ _ _ ?_;clear hK K;refine aC fun K hK=>?_;refine aO ?_;refine aC fun K hK=>gY mixed (by kernel_rfl) (by kernel_rfl) (by kernel_rfl) ?_;simp only[sR,simprocAttr];iterate 9
   (refine aE (g:=none) rfl rfl fun K' hK'=>?_;simp only[sH,↓sP,sA,tyS,simprocAttr,Int.natCast_nonneg,Int.ofNat_lt,hlt,aU hlt,hlt2,aU hlt2];(repeat refine AI ?_);refine hK' _ _ ?_;clear hK' K')
  simp only[sE,↓reduceIte,simprocAttr];repeat refine AI ?_
  refine hK _ _ _ ?_;clear hK K;refine aJ (b:=!(a[i]==b[i])) rfl (fun hb=>?_) (fun hb=>?_)
  ·
   refine aC fun K hK=>aD (by kernel_rfl) ?_;simp (maxSteps:=4000000) only[↓sP,sA,tyS,simprocAttr];repeat refine AI ?_
   refine hK _ _ _ ?_;clear hK K;refine aH ?_;simp (maxSteps:=4000000) only[bK,Tryz.results41,bH,bJ,bG,↓sP,sA,tyS,simprocAttr];have hne:a≠b:=by rintro rfl;simp at hb
   exact aK [] (.bool false) rfl (by rw[beq_false_of_ne hne])
  refine aN ?_;simp (maxSteps:=4000000) only[↓sP,sA,tyS,simprocAttr];repeat refine AI ?_
  refine hK _ _ _ ?_;clear hK K;refine aD (by kernel_rfl) ?_;simp (maxSteps:=4000000) only[↓sP,sA,tyS,simprocAttr,IntWalk.i64_in _ (show-9223372036854775808≤(i:Int)+1∧(i:Int)+1≤9223372036854775807 by omega)];refine⟨⟨i+1,hlt,yC hlt hlt2 hpre (by simpa using hb)⟩,aM (by omega) (by simp[aW,fin_at,finA_at,upd_at,HV.men,HV.menL,HV.norm,HV.toC,HV.toCL]) (by simp[aX,fob_at,upd_at,none0_at,bI,HO.men,HV.men,HV.menL,HV.norm,HV.toC,HV.toCL]),?_⟩;show a.length-(i+1)<a.length-i;omega
 refine bB ?_;simp (maxSteps:=4000000) only[↓sP,sA,tyS,simprocAttr];clear hK K;repeat refine AI ?_
 refine hK _ _ _ ?_;clear hK K;refine aC fun K hK=>aD (by kernel_rfl) ?_;simp (maxSteps:=4000000) only[↓sP,sA,tyS,simprocAttr];repeat refine AI ?_
 refine hK _ _ _ ?_;clear hK K;refine aH ?_;simp (maxSteps:=4000000) only[bK,Tryz.results41,bH,bJ,bG,↓sP,sA,tyS,simprocAttr];have hei:i=a.length:=by simp only[decide_eq_false_iff_not]at hb;omega
 subst hei;have hab:a=b:=yD hlen hpre;exact aK [] (.bool true) rfl (by rw[hab,beq_self_eq_true])
theorem bW2 (a b:List Dig)(ha:a.length<2^42):cF Tryz.prog 23 [.slc (a.map dg),.slc (b.map dg)] (fun v=>v= .bool (a==b)):=by
 refine bQ Tryz.func23 rfl (by kernel_rfl) (cR _) (Nat.le_of_ble_eq_true rfl) ?_;refine aC fun K hK=>aD (by kernel_rfl) ?_;simp (maxSteps:=4000000) only[↓sP,sA,tyS,simprocAttr];repeat refine AI ?_
 refine hK _ _ _ ?_;clear hK K;refine aC fun K hK=>?_;refine aC fun K hK=>aD (by kernel_rfl) ?_;simp only[sR,simprocAttr];iterate 5
  (refine aE (g:=none) rfl rfl fun K' hK'=>?_;simp only[sH,↓sP,sA,tyS,simprocAttr];(repeat refine AI ?_);refine hK' _ _ ?_;clear hK' K')
 simp only[sE,↓reduceIte,simprocAttr];repeat refine AI ?_
 refine hK _ _ _ ?_;clear hK K;refine aJ (b:=!((a.length:Int)==(b.length:Int))) rfl (fun hb=>?_) (fun hb=>?_)
 ·
  refine aC fun K hK=>aD (by kernel_rfl) ?_;simp (maxSteps:=4000000) only[↓sP,sA,tyS,simprocAttr];repeat refine AI ?_
  refine hK _ _ _ ?_;clear hK K;refine aH ?_;simp (maxSteps:=4000000) only[bK,Tryz.results23,bH,bJ,bG,↓sP,sA,tyS,simprocAttr];have hne:a≠b:=by rintro rfl;simp at hb
  exact aK [] (.bool false) rfl (by rw[beq_false_of_ne hne])
 have hlen0:(a.length:Int)=b.length:=by simpa using hb
 have hlen:a.length=b.length:=by omega
 clear hb;refine aN ?_;simp (maxSteps:=4000000) only[↓sP,sA,tyS,simprocAttr];repeat refine AI ?_
 refine hK _ _ _ ?_;clear hK K;refine aC fun K hK=>?_;refine aC fun K hK=>aD (by kernel_rfl) ?_;simp (maxSteps:=4000000) only[↓sP,sA,tyS,simprocAttr];repeat refine AI ?_
 refine hK _ _ _ ?_;clear hK K;refine aO ?_;refine bP (α:={i:Nat//i≤a.length∧a.take i=b.take i}) (fun i=>(fin [(0,.c (.slc (a.map dg))),(1,.c (.slc (b.map dg))),(5,.c (.int .i64 i.1))],fob [])) 100 (fun i=>a.length-i.1) ⟨0,by omega,by simp⟩ (aM (by omega) (by simp[aW,fin_at,finA_at,upd_at,HV.men,HV.menL,HV.norm,HV.toC,HV.toCL]) (by simp[aX,fob_at,upd_at,none0_at,bI,HO.men,HV.men,HV.menL,HV.norm,HV.toC,HV.toCL])) ?_;rintro⟨i,hi,hpre⟩;refine aC fun K hK=>?_;refine aC fun K hK=>aD (by kernel_rfl) ?_;simp only[sR,simprocAttr];iterate 4
  (refine aE (g:=none) rfl rfl fun K' hK'=>?_;simp only[sH,↓sP,sA,tyS,simprocAttr];(repeat refine AI ?_);refine hK' _ _ ?_;clear hK' K')
 simp only[sE,↓reduceIte,simprocAttr];repeat refine AI ?_
 refine hK _ _ _ ?_;clear hK K;refine aJ (b:=decide ((i:Int)<a.length)) rfl (fun hb=>?_) (fun hb=>?_)
 ·
  have hlt:i<a.length:=by simpa using hb
  have hlt2:i<b.length:=by omega
  clear hb;refine aN ?_;simp (maxSteps:=4000000) only[↓sP,sA,tyS,simprocAttr];repeat refine AI ?_
  refine hK _ _ _ ?_;clear hK K;refine aC fun K hK=>?_;refine aO ?_;refine aC fun K hK=>gY mixed (by kernel_rfl) (by kernel_rfl) (by kernel_rfl) ?_;simp only[sR,simprocAttr];iterate 9
   (refine aE (g:=none) rfl rfl fun K' hK'=>?_;simp only[sH,↓sP,sA,tyS,simprocAttr,Int.natCast_nonneg,Int.ofNat_lt,hlt,aU hlt,hlt2,aU hlt2];(repeat refine AI ?_);refine hK' _ _ ?_;clear hK' K')
  simp only[sE,↓reduceIte,simprocAttr];repeat refine AI ?_
  refine hK _ _ _ ?_;clear hK K;refine aJ (b:=!(a[i]==b[i])) rfl (fun hb=>?_) (fun hb=>?_)
  ·
   refine aC fun K hK=>aD (by kernel_rfl) ?_;simp (maxSteps:=4000000) only[↓sP,sA,tyS,simprocAttr];repeat refine AI ?_
   refine hK _ _ _ ?_;clear hK K;refine aH ?_;simp (maxSteps:=4000000) only[bK,Tryz.results23,bH,bJ,bG,↓sP,sA,tyS,simprocAttr];have hne:a≠b:=by rintro rfl;simp at hb
   exact aK [] (.bool false) rfl (by rw[beq_false_of_ne hne])
  refine aN ?_;simp (maxSteps:=4000000) only[↓sP,sA,tyS,simprocAttr];repeat refine AI ?_
  refine hK _ _ _ ?_;clear hK K;refine aD (by kernel_rfl) ?_;simp (maxSteps:=4000000) only[↓sP,sA,tyS,simprocAttr,IntWalk.i64_in _ (show-9223372036854775808≤(i:Int)+1∧(i:Int)+1≤9223372036854775807 by omega)];refine⟨⟨i+1,hlt,yC hlt hlt2 hpre (by simpa[Subtype.ext_iff]using hb)⟩,aM (by omega) (by simp[aW,fin_at,finA_at,upd_at,HV.men,HV.menL,HV.norm,HV.toC,HV.toCL]) (by simp[aX,fob_at,upd_at,none0_at,bI,HO.men,HV.men,HV.menL,HV.norm,HV.toC,HV.toCL]),?_⟩;show a.length-(i+1)<a.length-i;omega
 refine bB ?_;simp (maxSteps:=4000000) only[↓sP,sA,tyS,simprocAttr];clear hK K;repeat refine AI ?_
 refine hK _ _ _ ?_;clear hK K;refine aC fun K hK=>aD (by kernel_rfl) ?_;simp (maxSteps:=4000000) only[↓sP,sA,tyS,simprocAttr];repeat refine AI ?_
 refine hK _ _ _ ?_;clear hK K;refine aH ?_;simp (maxSteps:=4000000) only[bK,Tryz.results23,bH,bJ,bG,↓sP,sA,tyS,simprocAttr];have hei:i=a.length:=by simp only[decide_eq_false_iff_not]at hb;omega
 subst hei;have hab:a=b:=yD hlen hpre;exact aK [] (.bool true) rfl (by rw[hab,beq_self_eq_true])
theorem bK7 (a b:List Ln)(ha:a.length<2^40)(hd: ∀x∈a,x.d.length<2^42∧x.f.length<2^40):cF Tryz.prog 16 [.slc (a.map Ln.cv),.slc (b.map Ln.cv)] (fun v=> ∃c,v= .bool c∧(c=true↔a=b)):=by
 refine bQ Tryz.func16 rfl (by kernel_rfl) (cR _) (Nat.le_of_ble_eq_true rfl) ?_;refine aC fun K hK=>aD (by kernel_rfl) ?_;simp (maxSteps:=4000000) only[↓sP,sA,tyS,simprocAttr];repeat refine AI ?_
 refine hK _ _ _ ?_;clear hK K;refine aC fun K hK=>?_;refine aC fun K hK=>aD (by kernel_rfl) ?_;simp only[sR,simprocAttr];iterate 5
  (refine aE (g:=none) rfl rfl fun K' hK'=>?_;simp only[sH,↓sP,sA,tyS,simprocAttr];(repeat refine AI ?_);refine hK' _ _ ?_;clear hK' K')
 simp only[sE,↓reduceIte,simprocAttr];repeat refine AI ?_
 refine hK _ _ _ ?_;clear hK K;refine aJ (b:=!((a.length:Int)==(b.length:Int))) rfl (fun hb=>?_) (fun hb=>?_)
 ·
  refine aC fun K hK=>aD (by kernel_rfl) ?_;simp (maxSteps:=4000000) only[↓sP,sA,tyS,simprocAttr];repeat refine AI ?_
  refine hK _ _ _ ?_;clear hK K;refine aH ?_;simp (maxSteps:=4000000) only[bK,Tryz.results16,bH,bJ,bG,↓sP,sA,tyS,simprocAttr];have hne:a≠b:=by rintro rfl;simp at hb
  exact aK [] (.bool false) rfl ⟨false,rfl,by simp[hne]⟩
 have hlen0:(a.length:Int)=b.length:=by simpa using hb
 have hlen:a.length=b.length:=by omega
 clear hb;refine aN ?_;simp (maxSteps:=4000000) only[↓sP,sA,tyS,simprocAttr];repeat refine AI ?_
 refine hK _ _ _ ?_;clear hK K;refine aC fun K hK=>?_;refine aC fun K hK=>aD (by kernel_rfl) ?_;simp (maxSteps:=4000000) only[↓sP,sA,tyS,simprocAttr];repeat refine AI ?_
 refine hK _ _ _ ?_;clear hK K;refine aO ?_;refine bP (α:={i:Nat//i≤a.length∧a.take i=b.take i}) (fun i=>(fin [(0,.c (.slc (a.map Ln.cv))),(1,.c (.slc (b.map Ln.cv))),(5,.c (.int .i64 i.1))],fob [])) 100 (fun i=>a.length-i.1) ⟨0,by omega,by simp⟩ (aM (by omega) (by simp[aW,fin_at,finA_at,upd_at,HV.men,HV.menL,HV.norm,HV.toC,HV.toCL]) (by simp[aX,fob_at,upd_at,none0_at,bI,HO.men,HV.men,HV.menL,HV.norm,HV.toC,HV.toCL])) ?_;rintro⟨i,hi,hpre⟩;refine aC fun K hK=>?_;refine aC fun K hK=>aD (by kernel_rfl) ?_;simp only[sR,simprocAttr];iterate 4
  (refine aE (g:=none) rfl rfl fun K' hK'=>?_;simp only[sH,↓sP,sA,tyS,simprocAttr];(repeat refine AI ?_);refine hK' _ _ ?_;clear hK' K')
 simp only[sE,↓reduceIte,simprocAttr];repeat refine AI ?_
 refine hK _ _ _ ?_;clear hK K;refine aJ (b:=decide ((i:Int)<a.length)) rfl (fun hb=>?_) (fun hb=>?_)
 ·
  have hlt:i<a.length:=by simpa using hb
  have hlt2:i<b.length:=by omega
  clear hb;have hdi:=hd a[i] (List.getElem_mem hlt);refine aN ?_;simp (maxSteps:=4000000) only[↓sP,sA,tyS,simprocAttr];repeat refine AI ?_
  refine hK _ _ _ ?_;clear hK K;refine aC fun K hK=>?_;refine aO ?_;refine aC fun K hK=>lL mixed [(0,[],[]),(1,[],[]),(2,[],[]),(3,[],[]),(4,[],[]),(5,[],[]),(6,[],[]),(7,[],[]),(8,[],[]),(9,[],[]),(10,[],[]),(11,[],[]),(12,[],[]),(13,[],[]),(14,[],[]),(15,[],[]),(16,[],[]),(17,[],[]),(18,[],[]),(19,[],[]),(20,[],[]),(21,[],[]),(22,[],[]),(23,[],[]),(24,[],[]),(25,[],[]),(26,[],[]),(27,[],[]),(28,[],[]),(29,[],[]),(30,[],[]),(31,[],[]),(32,[],[]),(33,[],[]),(34,[],[]),(35,[],[]),(36,[],[]),(37,[],[]),(38,[],[]),(39,[],[]),(40,[],[]),(41,[],[]),(42,[],[]),(43,[],[]),(44,[],[]),(45,[],[]),(46,[],[]),(47,[],[]),(48,[],[]),(49,[],[]),(50,[],[]),(51,[],[])] [0,0,3,7,15,0,0,96,224,480,1023,2047,4095,4095,16383,32767,65535,4095,4095,397311,921599,1970175,4194303,8388607,16777215,33554431,33554431,134217727,268435455,536870911,33554431,33554431,3254779903,7549747199,16139681791,34359738367,68719476735,137438953471,274877906943,549755813887,549755813887,2199023255551,4398046511103,8796093022207,549755813887,549755813887,53326313947135,123695058124799,264432546480127,562949953421311,1125899906842623,2251799813685247] (by kernel_rfl) (by kernel_rfl) (by kernel_rfl) (by kernel_rfl) rfl (by kernel_rfl) ?_;iterate 12
   (refine aV (g:=none) rfl rfl fun K' hK'=>?_;simp only[sH,↓sP,sA,tyS,simprocAttr,Int.natCast_nonneg,Int.ofNat_lt,hlt,aU hlt,hlt2,aU hlt2];(repeat refine AI ?_);refine hK' _ _ ?_;clear hK' K')
  refine iB 27 rfl (fun h6_27=>?_) (fun h6_27=>?_)
  ·
   iterate 11
    (refine aV (g:=some (28,false)) rfl rfl fun K' hK'=>?_;simp only[sH,↓sP,sA,tyS,simprocAttr,Int.natCast_nonneg,Int.ofNat_lt,hlt,aU hlt,hlt2,aU hlt2,h6_27];(repeat refine AI ?_);refine hK' _ _ ?_;clear hK' K')
   iterate 2
    (refine aV (g:=none) rfl rfl fun K' hK'=>?_;simp only[sH,↓sP,sA,tyS,simprocAttr,Int.natCast_nonneg,Int.ofNat_lt,hlt,aU hlt,hlt2,aU hlt2,h6_27];(repeat refine AI ?_);refine hK' _ _ ?_;clear hK' K')
   iterate 12
    (refine aV (g:=some (41,false)) rfl rfl fun K' hK'=>?_;simp only[sH,↓sP,sA,tyS,simprocAttr,Int.natCast_nonneg,Int.ofNat_lt,hlt,aU hlt,hlt2,aU hlt2,h6_27];(repeat refine AI ?_);refine hK' _ _ ?_;clear hK' K')
   iterate 2
    (refine aV (g:=none) rfl rfl fun K' hK'=>?_;simp only[sH,↓sP,sA,tyS,simprocAttr,Int.natCast_nonneg,Int.ofNat_lt,hlt,aU hlt,hlt2,aU hlt2,h6_27];(repeat refine AI ?_);refine hK' _ _ ?_;clear hK' K')
   iterate 12
    (refine aV (g:=some (55,false)) rfl rfl fun K' hK'=>?_;simp only[sH,↓sP,sA,tyS,simprocAttr,Int.natCast_nonneg,Int.ofNat_lt,hlt,aU hlt,hlt2,aU hlt2,h6_27];(repeat refine AI ?_);refine hK' _ _ ?_;clear hK' K')
   refine aV (g:=none) rfl rfl fun K' hK'=>?_;simp (maxSteps:=4000000) only[sH,↓sP,sA,tyS,simprocAttr,Int.natCast_nonneg,Int.ofNat_lt,hlt,aU hlt,hlt2,aU hlt2,h6_27];repeat refine AI ?_
   refine hK' _ _ ?_;clear hK' K';simp only[sE,↓reduceIte,simprocAttr];repeat refine AI ?_
   refine hK _ _ _ ?_;clear hK K;refine aJ (b:=true) rfl (fun hb=>?_) (fun hb=>?_)
   ·
    refine aC fun K hK=>aD (by kernel_rfl) ?_;simp (maxSteps:=4000000) only[↓sP,sA,tyS,simprocAttr];repeat refine AI ?_
    refine hK _ _ _ ?_;clear hK K;refine aH ?_;simp (maxSteps:=4000000) only[bK,Tryz.results16,bH,bJ,bG,↓sP,sA,tyS,simprocAttr];refine aK [] (.bool false) rfl ⟨false,rfl,⟨fun h=>(by cases h),?_⟩⟩;rintro rfl;exfalso;first|(simp at h6_27;done)|(simp at h6_39;done)|(simp at h6_52;done)|(simp at h6_66;done)
   cases hb
  iterate 11
   (refine aV (g:=some (28,false)) rfl rfl fun K' hK'=>?_;simp only[sH,↓sP,sA,tyS,simprocAttr,Int.natCast_nonneg,Int.ofNat_lt,hlt,aU hlt,hlt2,aU hlt2,h6_27];(repeat refine AI ?_);refine hK' _ _ ?_;clear hK' K')
  iterate 2
   (refine aV (g:=none) rfl rfl fun K' hK'=>?_;simp only[sH,↓sP,sA,tyS,simprocAttr,Int.natCast_nonneg,Int.ofNat_lt,hlt,aU hlt,hlt2,aU hlt2,h6_27];(repeat refine AI ?_);refine hK' _ _ ?_;clear hK' K')
  refine iB 39 rfl (fun h6_39=>?_) (fun h6_39=>?_)
  ·
   iterate 12
    (refine aV (g:=some (41,false)) rfl rfl fun K' hK'=>?_;simp only[sH,↓sP,sA,tyS,simprocAttr,Int.natCast_nonneg,Int.ofNat_lt,hlt,aU hlt,hlt2,aU hlt2,h6_27,h6_39];(repeat refine AI ?_);refine hK' _ _ ?_;clear hK' K')
   iterate 2
    (refine aV (g:=none) rfl rfl fun K' hK'=>?_;simp only[sH,↓sP,sA,tyS,simprocAttr,Int.natCast_nonneg,Int.ofNat_lt,hlt,aU hlt,hlt2,aU hlt2,h6_27,h6_39];(repeat refine AI ?_);refine hK' _ _ ?_;clear hK' K')
   iterate 12
    (refine aV (g:=some (55,false)) rfl rfl fun K' hK'=>?_;simp only[sH,↓sP,sA,tyS,simprocAttr,Int.natCast_nonneg,Int.ofNat_lt,hlt,aU hlt,hlt2,aU hlt2,h6_27,h6_39];(repeat refine AI ?_);refine hK' _ _ ?_;clear hK' K')
   refine aV (g:=none) rfl rfl fun K' hK'=>?_;simp (maxSteps:=4000000) only[sH,↓sP,sA,tyS,simprocAttr,Int.natCast_nonneg,Int.ofNat_lt,hlt,aU hlt,hlt2,aU hlt2,h6_27,h6_39];repeat refine AI ?_
   refine hK' _ _ ?_;clear hK' K';simp only[sE,↓reduceIte,simprocAttr];repeat refine AI ?_
   refine hK _ _ _ ?_;clear hK K;refine aJ (b:=true) rfl (fun hb=>?_) (fun hb=>?_)
   ·
    refine aC fun K hK=>aD (by kernel_rfl) ?_;simp (maxSteps:=4000000) only[↓sP,sA,tyS,simprocAttr];repeat refine AI ?_
    refine hK _ _ _ ?_;clear hK K;refine aH ?_;simp (maxSteps:=4000000) only[bK,Tryz.results16,bH,bJ,bG,↓sP,sA,tyS,simprocAttr];refine aK [] (.bool false) rfl ⟨false,rfl,⟨fun h=>(by cases h),?_⟩⟩;rintro rfl;exfalso;first|(simp at h6_27;done)|(simp at h6_39;done)|(simp at h6_52;done)|(simp at h6_66;done)
   cases hb
  iterate 10
   (refine aV (g:=some (41,false)) rfl rfl fun K' hK'=>?_;simp only[sH,↓sP,sA,tyS,simprocAttr,Int.natCast_nonneg,Int.ofNat_lt,hlt,aU hlt,hlt2,aU hlt2,h6_27,h6_39];(repeat refine AI ?_);refine hK' _ _ ?_;clear hK' K')
  refine aV (g:=some (41,false)) rfl rfl fun K' hK'=>?_;simp (maxSteps:=4000000) only[sH,↓sP,sA,tyS,simprocAttr,Int.natCast_nonneg,Int.ofNat_lt,hlt,aU hlt,hlt2,aU hlt2,h6_27,h6_39];refine cB (args:=[_,_]) (bW2 a[i].d b[i].d hdi.1) ⟨rfl,rfl,rfl,rfl⟩ ?_;rintro u rfl;repeat refine AI ?_
  refine hK' _ _ ?_;clear hK' K';refine aV (g:=some (41,false)) rfl rfl fun K' hK'=>?_;simp (maxSteps:=4000000) only[sH,↓sP,sA,tyS,simprocAttr,Int.natCast_nonneg,Int.ofNat_lt,hlt,aU hlt,hlt2,aU hlt2,h6_27,h6_39];repeat refine AI ?_
  refine hK' _ _ ?_;clear hK' K';iterate 2
   (refine aV (g:=none) rfl rfl fun K' hK'=>?_;simp only[sH,↓sP,sA,tyS,simprocAttr,Int.natCast_nonneg,Int.ofNat_lt,hlt,aU hlt,hlt2,aU hlt2,h6_27,h6_39];(repeat refine AI ?_);refine hK' _ _ ?_;clear hK' K')
  refine iB 52 rfl (fun h6_52=>?_) (fun h6_52=>?_)
  ·
   iterate 10
    (refine aV (g:=some (55,false)) rfl rfl fun K' hK'=>?_;simp only[sH,↓sP,sA,tyS,simprocAttr,Int.natCast_nonneg,Int.ofNat_lt,hlt,aU hlt,hlt2,aU hlt2,h6_27,h6_39,h6_52];(repeat refine AI ?_);refine hK' _ _ ?_;clear hK' K')
   refine aV (g:=some (55,false)) rfl rfl fun K' hK'=>?_;simp (maxSteps:=4000000) only[sH,↓sP,sA,tyS,simprocAttr,Int.natCast_nonneg,Int.ofNat_lt,hlt,aU hlt,hlt2,aU hlt2,h6_27,h6_39,h6_52];refine cB (args:=[_,_]) (bW1 a[i].f b[i].f hdi.2) ⟨rfl,rfl,rfl,rfl⟩ ?_;rintro u rfl;repeat refine AI ?_
   refine hK' _ _ ?_;clear hK' K';refine aV (g:=some (55,false)) rfl rfl fun K' hK'=>?_;simp (maxSteps:=4000000) only[sH,↓sP,sA,tyS,simprocAttr,Int.natCast_nonneg,Int.ofNat_lt,hlt,aU hlt,hlt2,aU hlt2,h6_27,h6_39,h6_52];repeat refine AI ?_
   refine hK' _ _ ?_;clear hK' K';refine aV (g:=none) rfl rfl fun K' hK'=>?_;simp (maxSteps:=4000000) only[sH,↓sP,sA,tyS,simprocAttr,Int.natCast_nonneg,Int.ofNat_lt,hlt,aU hlt,hlt2,aU hlt2,h6_27,h6_39,h6_52];repeat refine AI ?_
   refine hK' _ _ ?_;clear hK' K';refine iB 66 rfl (fun h6_66=>?_) (fun h6_66=>?_)
   ·
    simp only[h6_66];simp only[sE,↓reduceIte,simprocAttr];repeat refine AI ?_
    refine hK _ _ _ ?_;clear hK K;refine aJ (b:=false) rfl (fun hb=>?_) (fun hb=>?_)
    · cases hb
    refine aN ?_;simp (maxSteps:=4000000) only[↓sP,sA,tyS,simprocAttr];repeat refine AI ?_
    refine hK _ _ _ ?_;clear hK K;refine aD (by kernel_rfl) ?_;simp (maxSteps:=4000000) only[↓sP,sA,tyS,simprocAttr,IntWalk.i64_in _ (show-9223372036854775808≤(i:Int)+1∧(i:Int)+1≤9223372036854775807 by omega)];refine⟨⟨i+1,hlt,yC hlt hlt2 hpre (cM7 h6_27 h6_39 h6_52 h6_66)⟩,aM (by omega) (by simp[aW,fin_at,finA_at,upd_at,HV.men,HV.menL,HV.norm,HV.toC,HV.toCL]) (by simp[aX,fob_at,upd_at,none0_at,bI,HO.men,HV.men,HV.menL,HV.norm,HV.toC,HV.toCL]),?_⟩;show a.length-(i+1)<a.length-i;omega
   simp only[h6_66];simp only[sE,↓reduceIte,simprocAttr];repeat refine AI ?_
   refine hK _ _ _ ?_;clear hK K;refine aJ (b:=true) rfl (fun hb=>?_) (fun hb=>?_)
   ·
    refine aC fun K hK=>aD (by kernel_rfl) ?_;simp (maxSteps:=4000000) only[↓sP,sA,tyS,simprocAttr];repeat refine AI ?_
    refine hK _ _ _ ?_;clear hK K;refine aH ?_;simp (maxSteps:=4000000) only[bK,Tryz.results16,bH,bJ,bG,↓sP,sA,tyS,simprocAttr];refine aK [] (.bool false) rfl ⟨false,rfl,⟨fun h=>(by cases h),?_⟩⟩;rintro rfl;exfalso;first|(simp at h6_27;done)|(simp at h6_39;done)|(simp at h6_52;done)|(simp at h6_66;done)
   cases hb
  iterate 12
   (refine aV (g:=some (55,false)) rfl rfl fun K' hK'=>?_;simp only[sH,↓sP,sA,tyS,simprocAttr,Int.natCast_nonneg,Int.ofNat_lt,hlt,aU hlt,hlt2,aU hlt2,h6_27,h6_39,h6_52];(repeat refine AI ?_);refine hK' _ _ ?_;clear hK' K')
  refine aV (g:=none) rfl rfl fun K' hK'=>?_;simp (maxSteps:=4000000) only[sH,↓sP,sA,tyS,simprocAttr,Int.natCast_nonneg,Int.ofNat_lt,hlt,aU hlt,hlt2,aU hlt2,h6_27,h6_39,h6_52];repeat refine AI ?_
  refine hK' _ _ ?_;clear hK' K';simp only[sE,↓reduceIte,simprocAttr];repeat refine AI ?_
  refine hK _ _ _ ?_;clear hK K;refine aJ (b:=true) rfl (fun hb=>?_) (fun hb=>?_)
  ·
   refine aC fun K hK=>aD (by kernel_rfl) ?_;simp (maxSteps:=4000000) only[↓sP,sA,tyS,simprocAttr];repeat refine AI ?_
   refine hK _ _ _ ?_;clear hK K;refine aH ?_;simp (maxSteps:=4000000) only[bK,Tryz.results16,bH,bJ,bG,↓sP,sA,tyS,simprocAttr];refine aK [] (.bool false) rfl ⟨false,rfl,⟨fun h=>(by cases h),?_⟩⟩;rintro rfl;exfalso;first|(simp at h6_27;done)|(simp at h6_39;done)|(simp at h6_52;done)|(simp at h6_66;done)
  cases hb
 refine bB ?_;simp (maxSteps:=4000000) only[↓sP,sA,tyS,simprocAttr];clear hK K;repeat refine AI ?_
 refine hK _ _ _ ?_;clear hK K;refine aC fun K hK=>aD (by kernel_rfl) ?_;simp (maxSteps:=4000000) only[↓sP,sA,tyS,simprocAttr];repeat refine AI ?_
 refine hK _ _ _ ?_;clear hK K;refine aH ?_;simp (maxSteps:=4000000) only[bK,Tryz.results16,bH,bJ,bG,↓sP,sA,tyS,simprocAttr];have hei:i=a.length:=by simp only[decide_eq_false_iff_not]at hb;omega
 subst hei;have hab:a=b:=yD hlen hpre;exact aK [] (.bool true) rfl ⟨true,rfl,by simp[hab]⟩
abbrev I64 (n:Int):Prop:= -9223372036854775808≤n∧n≤9223372036854775807
structure LnW (x:Ln):Prop where
 k:I64 x.k
 n:I64 x.n
 f: ∀n∈x.f,I64 n
 fl:x.f.length<2^38
 dl:x.d.length<2^38
variable {k:Int}
theorem kk1 (h:(k==1)=true)(h2:(k !=1)=true):False:=bne_iff_ne.1 h2 (eq_of_beq h)
theorem kk2 (h:(k==1)=false)(h2:(k !=1)=false):False:=by
 rw[bne,h]at h2;cases h2
def kT (x:Ln):Bool:=((!inB x.k 1 5||!iQ x.n)||(x.k==1&&decide ((x.f.length:Int)>0)))||(!(x.k==1)&&decide ((x.d.length:Int)>0))
theorem qK :fX x=(!kT x&&x.f.all iQ):=by
 have e1:(x.f==[])=!decide ((x.f.length:Int)>0):=by
  cases x.f with
  |nil=>rfl
  |cons a l=>
   have:decide (((a::l).length:Int)>0)=true:=decide_eq_true (by simp only[List.length_cons];omega);rw[this];rfl
 have e2:(x.d==[])=!decide ((x.d.length:Int)>0):=by
  cases x.d with
  |nil=>rfl
  |cons a l=>
   have:decide (((a::l).length:Int)>0)=true:=decide_eq_true (by simp only[List.length_cons];omega);rw[this];rfl
 unfold fX kT;by_cases hk:x.k=1
 ·
  rw[if_pos hk,e1,hk];cases hf:decide ((x.f.length:Int)>0)with
  |true=>simp
  |false=>
   have:x.f=[]:=List.eq_nil_of_length_eq_zero (by have:=of_decide_eq_false hf;omega);rw[this];simp
 rw[if_neg hk,e2,show(x.k==1)=false from beq_eq_false_iff_ne.2 hk];cases inB x.k 1 5<;>cases iQ x.n<;>cases x.f.all iQ<;>cases decide ((x.d.length:Int)>0)<;>rfl
theorem uY (h:i<x.f.length):(x.f.take (i+1)).map gD=(x.f.take i).map gD++[gD x.f[i]]:=by
 rw[List.take_succ_eq_append_getElem h,List.map_append];rfl
variable {l:List Int}
theorem all_take (h:i<l.length)(h0:(l.take i).all iQ=true)(h1:iQ l[i]=true):(l.take (i+1)).all iQ=true:=by
 rw[List.take_succ_eq_append_getElem h,List.all_append,h0];simp[h1]
theorem cE7 (h:i<l.length)(h1:iQ l[i]=false):l.all iQ=false:=by
 rw[List.all_eq_false];exact⟨_,List.getElem_mem h,by simp[h1]⟩
theorem aD7 {l:List Dig}(h:i<l.length):(l.take (i+1)).map mZ=(l.take i).map mZ++[mZ l[i]]:=by
 rw[List.take_succ_eq_append_getElem h,List.map_append];rfl
def yE (x:Ln):List (List aL):=if fX x then fK x else []
theorem lines_ok (x:Ln)(hx:LnW x):rO Tryz.prog 47 tabs [x.cv] (fun u v=>u= .slc ((yE x).map lsC)∧v= .bool (fX x)):=by
 refine bQ (args:=[.c x.cv]) Tryz.func47 rfl (by kernel_rfl) (gA tabs [x.cv]) (Nat.le_of_ble_eq_true rfl) ?_;unfold fV;obtain⟨w1,w2⟩:=cD4 x.k;have hno: ∀{ob:Ob} {r:HV},fX x=false→r= .tup [.c .nils,.c (.bool false)]→ob 0=some (.tab tabs)→iK 1 r ob (fun r ob'=> ∃u v,r= .tup [.c u,.c v]∧ob'=fob [(0,.tab tabs)]∧(u= .slc ((yE x).map lsC)∧v= .bool (fX x))):=fun {ob r} hf hr h0=>by
  subst hr;exact eW [] (.slc []) (.bool false) (by simp[HV.close,HV.closeL,CV.denil,CV.denilL,HV.norm,HV.toC,HV.toCL]) h0 (by simp) ⟨by rw[yE,hf];rfl,by rw[hf]⟩
 refine aC fun K hK=>aD (by kernel_rfl) ?_;simp (maxSteps:=4000000) only[↓sP,sA,tyS,simprocAttr];repeat refine AI ?_
 refine hK _ _ _ ?_;clear hK K;refine aC fun K hK=>dW mixed [(1,[],[]),(2,[],[]),(0,[],[1,2]),(3,[],[]),(4,[],[]),(5,[],[]),(6,[],[]),(7,[],[]),(8,[],[])] [0,0,2,7,15,31,31,63,255] (by kernel_rfl) (by kernel_rfl) (by kernel_rfl) (by kernel_rfl) rfl (by kernel_rfl) ?_;iterate 2
  (refine cC (g:=none) rfl rfl fun K' hK'=>?_;simp only[sH,↓sP,sA,tyS,simprocAttr];(repeat refine AI ?_);refine hK' _ _ ?_;clear hK' K')
 refine cC (g:=none) rfl rfl fun K' hK'=>?_;simp (maxSteps:=4000000) only[sH,↓sP,sA,tyS,simprocAttr];refine eQ [] aP4 rfl trivial (by simp) (by simp) ⟨rfl,rfl,rfl,rfl⟩ (by simp[dL]) (by simp[HV.menL]) ?_;rintro r os' ⟨rfl,rfl⟩;rw[bV4,bC0];repeat refine AI ?_
 refine hK' _ _ ?_;clear hK' K';refine cJ (g:=none) rfl rfl fun K' hK'=>?_;simp (maxSteps:=4000000) only[sN,↓hopH.eq_def,sH,↓sP,sA,tyS,simprocAttr];refine⟨wlK,rfl,cD5,?_⟩;rw[w1,w2];repeat refine AI ?_
 refine hK' _ _ ?_;clear hK' K';iterate 5
  (refine cC (g:=none) rfl rfl fun K' hK'=>?_;simp only[sH,↓sP,sA,tyS,simprocAttr];(repeat refine AI ?_);refine hK' _ _ ?_;clear hK' K')
 simp only[sE,↓reduceIte,simprocAttr];repeat refine AI ?_
 refine hK _ _ _ ?_;clear hK K;refine aC fun K hK=>aD (by kernel_rfl) ?_;simp only[sR,simprocAttr];iterate 2
  (refine aE (g:=none) rfl rfl fun K' hK'=>?_;simp only[sH,↓sP,sA,tyS,simprocAttr];(repeat refine AI ?_);refine hK' _ _ ?_;clear hK' K')
 refine aE (g:=none) rfl rfl fun K' hK'=>?_;simp (maxSteps:=4000000) only[sH,↓sP,sA,tyS,simprocAttr];refine fW (args:=[_]) 0 (aH5 x.n hx.n) rfl (by simp) ⟨rfl,rfl,rfl,rfl⟩ ?_;rintro u v ⟨rfl,rfl⟩;repeat refine AI ?_
 refine hK' _ _ ?_;clear hK' K';iterate 5
  (refine aE (g:=none) rfl rfl fun K' hK'=>?_;simp only[sH,↓sP,sA,tyS,simprocAttr];(repeat refine AI ?_);refine hK' _ _ ?_;clear hK' K')
 simp only[sE,↓reduceIte,simprocAttr];repeat refine AI ?_
 refine hK _ _ _ ?_;clear hK K;refine aC fun K hK=>?_;refine aC fun K hK=>?_;have key: ∀(b:Bool) fr ob nx,b=kT x→Fits 1 fr ob (fin [(1,.ptr 1 0),(4,.c (.str (wordK x.k))),(6,.c (.str (gD x.n))),(56,.c (.bool b))]) (fob [(0,.tab tabs),(1,.box 41 (.c x.cv))]) 600→K fr ob nx:=by
  rintro b fr ob nx rfl hf;refine hK _ _ _ (bO hf ?_);clear hf hK K;refine aJ (b:=kT x) rfl (fun hb=>?_) (fun hb=>?_)
  ·
   refine aC fun K hK=>aD (by kernel_rfl) ?_;simp (maxSteps:=4000000) only[↓sP,sA,tyS,simprocAttr];repeat refine AI ?_
   refine hK _ _ _ ?_;clear hK K;refine aH ?_;simp (maxSteps:=4000000) only[bK,Tryz.results47,bH,bJ,bG,↓sP,sA,tyS,simprocAttr];exact hno (by rw[qK,hb];rfl) rfl rfl
  have hbad:kT x=false:=hb;clear hb;refine aN ?_;simp (maxSteps:=4000000) only[↓sP,sA,tyS,simprocAttr];repeat refine AI ?_
  refine hK _ _ _ ?_;clear hK K;refine aC fun K hK=>aD (by kernel_rfl) ?_;simp only[sR,simprocAttr];iterate 4
   (refine aE (g:=none) rfl rfl fun K' hK'=>?_;simp only[sH,↓sP,sA,tyS,simprocAttr];(repeat refine AI ?_);refine hK' _ _ ?_;clear hK' K')
  simp only[sE,↓reduceIte,simprocAttr];repeat refine AI ?_
  refine hK _ _ _ ?_;clear hK K;refine aC fun K hK=>?_;refine aC fun K hK=>aD (by kernel_rfl) ?_;simp only[sR,simprocAttr];iterate 4
   (refine aE (g:=none) rfl rfl fun K' hK'=>?_;simp only[sH,↓sP,sA,tyS,simprocAttr];(repeat refine AI ?_);refine hK' _ _ ?_;clear hK' K')
  simp only[sE,↓reduceIte,simprocAttr];repeat refine AI ?_
  refine hK _ _ _ ?_;clear hK K;refine aO ?_;refine bP (α:={i:Nat//i≤x.f.length∧(x.f.take i).all iQ=true}) (fun i=>(fin [(1,.ptr 1 0),(8,.own 608 (2+i.1)),(61,.c (.slc (x.f.map (CV.int .i64)))),(62,.c (.int .i64 x.f.length)),(63,.c (.int .i64 i.1))],fob [(0,.tab tabs),(1,.box 41 (.c x.cv)),(608,.row 9 1 ((wordK x.k::gD x.n::(x.f.take i.1).map gD).map .str))])) 2000 (fun i=>x.f.length-i.1) ⟨0,by omega,by simp⟩ (aM (by omega) (by simp[aW,fin_at,finA_at,upd_at,HV.men,HV.menL,HV.norm,HV.toC,HV.toCL]) (by simp[aX,fob_at,upd_at,none0_at,bI,HO.men,HV.men,HV.menL,HV.norm,HV.toC,HV.toCL])) ?_;rintro⟨i,hi,hall⟩;refine aC fun K hK=>aD (by kernel_rfl) ?_;simp (maxSteps:=4000000) only[↓sP,sA,tyS,simprocAttr];repeat refine AI ?_
  refine hK _ _ _ ?_;clear hK K;refine aC fun K hK=>?_;refine aJ (b:=decide ((i:Int)<x.f.length)) rfl (fun hb=>?_) (fun hb=>?_)
  ·
   have hlt:i<x.f.length:=by have:=of_decide_eq_true hb;omega
   have hfl:=hx.fl;have hti:(x.f.take i).length=i:=by simp;omega
   clear hb;refine aN ?_;simp (maxSteps:=4000000) only[↓sP,sA,tyS,simprocAttr];repeat refine AI ?_
   refine hK _ _ _ ?_;clear hK K;refine aC fun K hK=>?_;refine aO ?_;refine aC fun K hK=>aD (by kernel_rfl) ?_;simp (maxSteps:=4000000) only[↓sP,sA,tyS,simprocAttr,Int.natCast_nonneg,Int.ofNat_lt,hlt,aU hlt];repeat refine AI ?_
   refine hK _ _ _ ?_;clear hK K;refine aC fun K hK=>aD (by kernel_rfl) ?_;simp only[sR,simprocAttr];refine aE (g:=none) rfl rfl fun K' hK'=>?_;simp (maxSteps:=4000000) only[sH,↓sP,sA,tyS,simprocAttr];repeat refine AI ?_
   refine hK' _ _ ?_;clear hK' K';refine aE (g:=none) rfl rfl fun K' hK'=>?_;simp (maxSteps:=4000000) only[sH,↓sP,sA,tyS,simprocAttr];refine fW (args:=[_]) 0 (aH5 x.f[i] (hx.f _ (List.getElem_mem hlt))) rfl (by simp) ⟨rfl,rfl,rfl,rfl⟩ ?_;rintro u v ⟨rfl,rfl⟩;repeat refine AI ?_
   refine hK' _ _ ?_;clear hK' K';iterate 5
    (refine aE (g:=none) rfl rfl fun K' hK'=>?_;simp only[sH,↓sP,sA,tyS,simprocAttr];(repeat refine AI ?_);refine hK' _ _ ?_;clear hK' K')
   simp only[sE,↓reduceIte,simprocAttr];repeat refine AI ?_
   refine hK _ _ _ ?_;clear hK K;refine aC fun K hK=>?_;refine aC fun K hK=>aD (by kernel_rfl) ?_;simp (maxSteps:=4000000) only[↓sP,sA,tyS,simprocAttr];repeat refine AI ?_
   refine hK _ _ _ ?_;clear hK K;refine aJ (b:=!iQ x.f[i]) rfl (fun hb=>?_) (fun hb=>?_)
   ·
    refine aC fun K hK=>aD (by kernel_rfl) ?_;simp (maxSteps:=4000000) only[↓sP,sA,tyS,simprocAttr];repeat refine AI ?_
    refine hK _ _ _ ?_;clear hK K;refine aH ?_;simp (maxSteps:=4000000) only[bK,Tryz.results47,bH,bJ,bG,↓sP,sA,tyS,simprocAttr];exact hno (by rw[qK,cE7 hlt (by simpa using hb),Bool.and_false]) rfl rfl
   have h40:iQ x.f[i]=true:=by simpa using hb
   clear hb;refine aN ?_;simp (maxSteps:=4000000) only[↓sP,sA,tyS,simprocAttr];repeat refine AI ?_
   refine hK _ _ _ ?_;clear hK K;refine aD (by kernel_rfl) ?_;simp only[sR,simprocAttr];iterate 5
    (refine aE (g:=none) rfl rfl fun K' hK'=>?_;simp only[sH,↓sP,sA,tyS,simprocAttr,List.length_cons,List.length_map,hti];(repeat refine AI ?_);refine hK' _ _ ?_;clear hK' K')
   simp only[sE,↓reduceIte,simprocAttr];repeat refine AI ?_
   refine hK _ _ _ ?_;clear hK K;refine aD (by kernel_rfl) ?_;simp (maxSteps:=4000000) only[↓sP,sA,tyS,simprocAttr,IntWalk.i64_in _ (show-9223372036854775808≤(i:Int)+1∧(i:Int)+1≤9223372036854775807 by omega)];have hmn:min i x.f.length+1+1+1=2+(i+1):=by omega
   refine⟨⟨i+1,by omega,all_take hlt hall h40⟩,(aM (by omega) (by simp[aW,fin_at,finA_at,upd_at,HV.men,HV.menL,HV.norm,HV.toC,HV.toCL,uY hlt,List.map_append,hti,hmn]) (by simp[aX,fob_at,upd_at,none0_at,bI,HO.men,HV.men,HV.menL,HV.norm,HV.toC,HV.toCL,uY hlt,List.map_append,hti,hmn])),?_⟩;show x.f.length-(i+1)<x.f.length-i;omega
  have hie:i=x.f.length:=by have:=of_decide_eq_false hb;omega
  subst hie;rw[List.take_length]at hall;clear hb;have hfine:fX x=true:=by rw[qK,hbad,hall];rfl
  refine bB ?_;simp (maxSteps:=4000000) only[↓sP,sA,tyS,simprocAttr];clear hK K;repeat refine AI ?_
  refine hK _ _ _ ?_;clear hK K;have hfl2:2+x.f.length=x.f.length+1+1:=by omega
  refine fC [608] (bO (fr2:=fin [(1,.ptr 1 0),(8,.c (lsC (firstL x)))]) (ob2:=fob [(0,.tab tabs),(1,.box 41 (.c x.cv))]) (nx2:=3000) (aM (by omega) (by simp[aW,fJ,fin_at,finA_at,upd_at,fob_at,HV.close,HV.closeL,CV.denil,CV.denilL,denilL_str,hfl2,lsC,firstL,HV.men,HV.menL,HV.norm,HV.toC,HV.toCL]) (by simp[aX,gZ,fob_at,upd_at,none0_at,bI,HO.close,HV.close,HV.closeL,Ln.denil,HO.men,HV.men,HV.menL,HV.norm,HV.toC,HV.toCL])) ?_);refine aC fun K hK=>aD (by kernel_rfl) ?_;simp (maxSteps:=4000000) only[↓sP,sA,tyS,simprocAttr];repeat refine AI ?_
  refine hK _ _ _ ?_;clear hK K;refine aC fun K hK=>?_;refine aC fun K hK=>aD (by kernel_rfl) ?_;simp only[sR,simprocAttr];iterate 4
   (refine aE (g:=none) rfl rfl fun K' hK'=>?_;simp only[sH,↓sP,sA,tyS,simprocAttr];(repeat refine AI ?_);refine hK' _ _ ?_;clear hK' K')
  simp only[sE,↓reduceIte,simprocAttr];repeat refine AI ?_
  refine hK _ _ _ ?_;clear hK K;refine aO ?_;refine bP (α:={i:Nat//i≤x.d.length}) (fun i=>(fin [(13,.own 3004 (1+i.1)),(82,.c (.slc (x.d.map dg))),(83,.c (.int .i64 x.d.length)),(84,.c (.int .i64 i.1))],fob [(0,.tab tabs),(3004,.row 71 1 ((firstL x::(x.d.take i.1).map mZ).map lsC))])) 5000 (fun i=>x.d.length-i.1) ⟨0,by omega⟩ (aM (by omega) (by simp[aW,fin_at,finA_at,upd_at,HV.men,HV.menL,HV.norm,HV.toC,HV.toCL,tU]) (by simp[aX,fob_at,upd_at,none0_at,bI,HO.men,HV.men,HV.menL,HV.norm,HV.toC,HV.toCL,tU])) ?_;rintro⟨i,hi⟩;refine aC fun K hK=>aD (by kernel_rfl) ?_;simp (maxSteps:=4000000) only[↓sP,sA,tyS,simprocAttr];repeat refine AI ?_
  refine hK _ _ _ ?_;clear hK K;refine aC fun K hK=>?_;refine aJ (b:=decide ((i:Int)<x.d.length)) rfl (fun hb=>?_) (fun hb=>?_)
  ·
   have hlt:i<x.d.length:=by have:=of_decide_eq_true hb;omega
   have hdl:=hx.dl;have hti:(x.d.take i).length=i:=by simp;omega
   clear hb;refine aN ?_;simp (maxSteps:=4000000) only[↓sP,sA,tyS,simprocAttr];repeat refine AI ?_
   refine hK _ _ _ ?_;clear hK K;refine aC fun K hK=>?_;refine aO ?_;refine aC fun K hK=>aD (by kernel_rfl) ?_;simp only[sR,simprocAttr];iterate 4
    (refine aE (g:=none) rfl rfl fun K' hK'=>?_;simp only[sH,↓sP,sA,tyS,simprocAttr,Int.natCast_nonneg,Int.ofNat_lt,hlt,aU hlt];(repeat refine AI ?_);refine hK' _ _ ?_;clear hK' K')
   simp only[sE,↓reduceIte,simprocAttr];repeat refine AI ?_
   refine hK _ _ _ ?_;clear hK K;refine cH (by kernel_rfl) ?_;simp only[sR,simprocAttr];iterate 2
    (refine aZ (g:=none) rfl rfl fun K' hK'=>?_;simp only[sH,↓sP,sA,tyS,simprocAttr,List.length_cons,List.length_map,hti];(repeat refine AI ?_);refine hK' _ _ ?_;clear hK' K')
   refine aZ (g:=none) rfl rfl fun K' hK'=>?_;simp (maxSteps:=4000000) only[sH,↓sP,sA,tyS,simprocAttr,List.length_cons,List.length_map,hti];refine cB (args:=[_]) (vP x.d[i]) ⟨rfl,rfl,rfl,rfl⟩ ?_;rintro u rfl;repeat refine AI ?_
   refine hK' _ _ ?_;clear hK' K';refine dU (g:=none) 5032 rfl rfl fun K' hK'=>?_;simp (maxSteps:=4000000) only[iT,lK,sH,↓sP,sA,tyS,simprocAttr,List.length_cons,List.length_map,hti];repeat refine AI ?_
   refine dX (by first|rfl|simp) ?_;try simp (maxSteps:=4000000) only[sH,↓sP,sA,tyS,simprocAttr,List.length_cons,List.length_map,hti]
   repeat refine AI ?_
   refine hK' _ _ ?_;clear hK' K';iterate 3
    (refine aZ (g:=none) rfl rfl fun K' hK'=>?_;simp only[sH,↓sP,sA,tyS,simprocAttr,List.length_cons,List.length_map,hti];(repeat refine AI ?_);refine hK' _ _ ?_;clear hK' K')
   simp only[sE,↓reduceIte,simprocAttr];repeat refine AI ?_
   refine hK _ _ _ ?_;clear hK K;refine aD (by kernel_rfl) ?_;simp (maxSteps:=4000000) only[↓sP,sA,tyS,simprocAttr,IntWalk.i64_in _ (show-9223372036854775808≤(i:Int)+1∧(i:Int)+1≤9223372036854775807 by omega)];have hmn2:min i x.d.length+1+1=1+(i+1):=by omega
   refine⟨⟨i+1,by omega⟩,(aM (by omega) (by simp[aW,fin_at,finA_at,upd_at,HV.men,HV.menL,HV.norm,HV.toC,HV.toCL,aD7 hlt,List.map_append,hti,mZ,lsC,pC,hmn2]) (by simp[aX,fob_at,upd_at,none0_at,bI,HO.men,HV.men,HV.menL,HV.norm,HV.toC,HV.toCL,aD7 hlt,List.map_append,hti,mZ,lsC,pC,hmn2])),?_⟩;show x.d.length-(i+1)<x.d.length-i;omega
  have hie:i=x.d.length:=by have:=of_decide_eq_false hb;omega
  subst hie;clear hb;refine bB ?_;simp (maxSteps:=4000000) only[↓sP,sA,tyS,simprocAttr];clear hK K;repeat refine AI ?_
  refine hK _ _ _ ?_;clear hK K;refine aC fun K hK=>aD (by kernel_rfl) ?_;simp (maxSteps:=4000000) only[↓sP,sA,tyS,simprocAttr];repeat refine AI ?_
  refine hK _ _ _ ?_;clear hK K;refine aH ?_;simp (maxSteps:=4000000) only[bK,Tryz.results47,bH,bJ,bG,↓sP,sA,tyS,simprocAttr];have hdl2:1+x.d.length=x.d.length+1:=by omega
  rw[List.take_length];refine eW [3004] (.slc ((fK x).map lsC)) (.bool true) ?_ rfl (by simp) ⟨by rw[yE,if_pos hfine],by rw[hfine]⟩;simp[HV.close,HV.closeL,fob_at,upd_at,CV.denil,HV.norm,HV.toC,HV.toCL,fK,hdl2]
 refine aD (by kernel_rfl) ?_;simp only[sR,simprocAttr];iterate 3
  (refine aE (g:=none) rfl rfl fun K' hK'=>?_;simp only[sH,↓sP,sA,tyS,simprocAttr,List.length_map];(repeat refine AI ?_);refine hK' _ _ ?_;clear hK' K')
 refine aG 29 rfl (fun h3_29=>?_) (fun h3_29=>?_)
 ·
  iterate 2
   (refine aE (g:=some (31,false)) rfl rfl fun K' hK'=>?_;simp only[sH,↓sP,sA,tyS,simprocAttr,List.length_map,h3_29];(repeat refine AI ?_);refine hK' _ _ ?_;clear hK' K')
  iterate 2
   (refine aE (g:=none) rfl rfl fun K' hK'=>?_;simp only[sH,↓sP,sA,tyS,simprocAttr,List.length_map,h3_29];(repeat refine AI ?_);refine hK' _ _ ?_;clear hK' K')
  refine aG 32 rfl (fun h3_32=>?_) (fun h3_32=>?_)
  ·
   iterate 4
    (refine aE (g:=some (35,false)) rfl rfl fun K' hK'=>?_;simp only[sH,↓sP,sA,tyS,simprocAttr,List.length_map,h3_29,h3_32];(repeat refine AI ?_);refine hK' _ _ ?_;clear hK' K')
   refine aG 38 rfl (fun h3_38=>?_) (fun h3_38=>?_)
   ·
    iterate 4
     (refine aE (g:=some (39,true)) rfl rfl fun K' hK'=>?_;simp only[sH,↓sP,sA,tyS,simprocAttr,List.length_map,h3_29,h3_32,h3_38];(repeat refine AI ?_);refine hK' _ _ ?_;clear hK' K')
    refine aE (g:=some (35,false)) rfl rfl fun K' hK'=>?_;simp (maxSteps:=4000000) only[sH,↓sP,sA,tyS,simprocAttr,List.length_map,h3_29,h3_32,h3_38];repeat refine AI ?_
    refine hK' _ _ ?_;clear hK' K';iterate 2
     (refine aE (g:=none) rfl rfl fun K' hK'=>?_;simp only[sH,↓sP,sA,tyS,simprocAttr,List.length_map,h3_29,h3_32,h3_38];(repeat refine AI ?_);refine hK' _ _ ?_;clear hK' K')
    refine aG 43 rfl (fun h3_43=>?_) (fun h3_43=>?_)
    ·
     iterate 4
      (refine aE (g:=some (46,false)) rfl rfl fun K' hK'=>?_;simp only[sH,↓sP,sA,tyS,simprocAttr,List.length_map,h3_29,h3_32,h3_38,h3_43];(repeat refine AI ?_);refine hK' _ _ ?_;clear hK' K')
     iterate 4
      (refine aE (g:=some (50,true)) rfl rfl fun K' hK'=>?_;simp only[sH,↓sP,sA,tyS,simprocAttr,List.length_map,h3_29,h3_32,h3_38,h3_43];(repeat refine AI ?_);refine hK' _ _ ?_;clear hK' K')
     refine aE (g:=some (46,false)) rfl rfl fun K' hK'=>?_;simp (maxSteps:=4000000) only[sH,↓sP,sA,tyS,simprocAttr,List.length_map,h3_29,h3_32,h3_38,h3_43];repeat refine AI ?_
     refine hK' _ _ ?_;clear hK' K';refine aE (g:=none) rfl rfl fun K' hK'=>?_;simp (maxSteps:=4000000) only[sH,↓sP,sA,tyS,simprocAttr,List.length_map,h3_29,h3_32,h3_38,h3_43];repeat refine AI ?_
     refine hK' _ _ ?_;clear hK' K';simp only[sE,↓reduceIte,simprocAttr];exact key true _ _ _ (by first|(simp only[kT,h3_29,h3_32,h3_38,h3_43,Bool.not_true,Bool.not_false,Bool.true_or,Bool.false_or,Bool.true_and,Bool.false_and];done)|(exfalso;first|exact kk1 (by assumption) (by assumption)|exact kk2 (by assumption) (by assumption))) (aM (by omega) (by simp[aW,fin_at,finA_at,upd_at,HV.men,HV.menL,HV.norm,HV.toC,HV.toCL]) (by simp[aX,fob_at,upd_at,none0_at,bI,HO.men,HV.men,HV.menL,HV.norm,HV.toC,HV.toCL]))
    iterate 4
     (refine aE (g:=some (46,false)) rfl rfl fun K' hK'=>?_;simp only[sH,↓sP,sA,tyS,simprocAttr,List.length_map,h3_29,h3_32,h3_38,h3_43];(repeat refine AI ?_);refine hK' _ _ ?_;clear hK' K')
    refine aG 49 rfl (fun h3_49=>?_) (fun h3_49=>?_)
    ·
     iterate 4
      (refine aE (g:=some (50,true)) rfl rfl fun K' hK'=>?_;simp only[sH,↓sP,sA,tyS,simprocAttr,List.length_map,h3_29,h3_32,h3_38,h3_43,h3_49];(repeat refine AI ?_);refine hK' _ _ ?_;clear hK' K')
     refine aE (g:=some (46,false)) rfl rfl fun K' hK'=>?_;simp (maxSteps:=4000000) only[sH,↓sP,sA,tyS,simprocAttr,List.length_map,h3_29,h3_32,h3_38,h3_43,h3_49];repeat refine AI ?_
     refine hK' _ _ ?_;clear hK' K';refine aE (g:=none) rfl rfl fun K' hK'=>?_;simp (maxSteps:=4000000) only[sH,↓sP,sA,tyS,simprocAttr,List.length_map,h3_29,h3_32,h3_38,h3_43,h3_49];repeat refine AI ?_
     refine hK' _ _ ?_;clear hK' K';refine aG 54 rfl (fun h3_54=>?_) (fun h3_54=>?_)
     · simp only[h3_54];simp only[sE,↓reduceIte,simprocAttr];exact key true _ _ _ (by first|(simp only[kT,h3_29,h3_32,h3_38,h3_43,h3_49,h3_54,Bool.not_true,Bool.not_false,Bool.true_or,Bool.false_or,Bool.true_and,Bool.false_and];done)|(exfalso;first|exact kk1 (by assumption) (by assumption)|exact kk2 (by assumption) (by assumption))) (aM (by omega) (by simp[aW,fin_at,finA_at,upd_at,HV.men,HV.menL,HV.norm,HV.toC,HV.toCL]) (by simp[aX,fob_at,upd_at,none0_at,bI,HO.men,HV.men,HV.menL,HV.norm,HV.toC,HV.toCL]))
     simp only[h3_54];simp only[sE,↓reduceIte,simprocAttr];exact key false _ _ _ (by first|(simp only[kT,h3_29,h3_32,h3_38,h3_43,h3_49,h3_54,Bool.not_true,Bool.not_false,Bool.true_or,Bool.false_or,Bool.true_and,Bool.false_and];done)|(exfalso;first|exact kk1 (by assumption) (by assumption)|exact kk2 (by assumption) (by assumption))) (aM (by omega) (by simp[aW,fin_at,finA_at,upd_at,HV.men,HV.menL,HV.norm,HV.toC,HV.toCL]) (by simp[aX,fob_at,upd_at,none0_at,bI,HO.men,HV.men,HV.menL,HV.norm,HV.toC,HV.toCL]))
    iterate 4
     (refine aE (g:=some (50,true)) rfl rfl fun K' hK'=>?_;simp only[sH,↓sP,sA,tyS,simprocAttr,List.length_map,h3_29,h3_32,h3_38,h3_43,h3_49];(repeat refine AI ?_);refine hK' _ _ ?_;clear hK' K')
    refine aE (g:=some (46,false)) rfl rfl fun K' hK'=>?_;simp (maxSteps:=4000000) only[sH,↓sP,sA,tyS,simprocAttr,List.length_map,h3_29,h3_32,h3_38,h3_43,h3_49];repeat refine AI ?_
    refine hK' _ _ ?_;clear hK' K';refine aE (g:=none) rfl rfl fun K' hK'=>?_;simp (maxSteps:=4000000) only[sH,↓sP,sA,tyS,simprocAttr,List.length_map,h3_29,h3_32,h3_38,h3_43,h3_49];repeat refine AI ?_
    refine hK' _ _ ?_;clear hK' K';simp only[sE,↓reduceIte,simprocAttr];exact key false _ _ _ (by first|(simp only[kT,h3_29,h3_32,h3_38,h3_43,h3_49,Bool.not_true,Bool.not_false,Bool.true_or,Bool.false_or,Bool.true_and,Bool.false_and];done)|(exfalso;first|exact kk1 (by assumption) (by assumption)|exact kk2 (by assumption) (by assumption))) (aM (by omega) (by simp[aW,fin_at,finA_at,upd_at,HV.men,HV.menL,HV.norm,HV.toC,HV.toCL]) (by simp[aX,fob_at,upd_at,none0_at,bI,HO.men,HV.men,HV.menL,HV.norm,HV.toC,HV.toCL]))
   iterate 4
    (refine aE (g:=some (39,true)) rfl rfl fun K' hK'=>?_;simp only[sH,↓sP,sA,tyS,simprocAttr,List.length_map,h3_29,h3_32,h3_38];(repeat refine AI ?_);refine hK' _ _ ?_;clear hK' K')
   refine aE (g:=some (35,false)) rfl rfl fun K' hK'=>?_;simp (maxSteps:=4000000) only[sH,↓sP,sA,tyS,simprocAttr,List.length_map,h3_29,h3_32,h3_38];repeat refine AI ?_
   refine hK' _ _ ?_;clear hK' K';iterate 2
    (refine aE (g:=none) rfl rfl fun K' hK'=>?_;simp only[sH,↓sP,sA,tyS,simprocAttr,List.length_map,h3_29,h3_32,h3_38];(repeat refine AI ?_);refine hK' _ _ ?_;clear hK' K')
   iterate 4
    (refine aE (g:=some (46,false)) rfl rfl fun K' hK'=>?_;simp only[sH,↓sP,sA,tyS,simprocAttr,List.length_map,h3_29,h3_32,h3_38];(repeat refine AI ?_);refine hK' _ _ ?_;clear hK' K')
   refine aG 49 rfl (fun h3_49=>?_) (fun h3_49=>?_)
   ·
    iterate 4
     (refine aE (g:=some (50,true)) rfl rfl fun K' hK'=>?_;simp only[sH,↓sP,sA,tyS,simprocAttr,List.length_map,h3_29,h3_32,h3_38,h3_49];(repeat refine AI ?_);refine hK' _ _ ?_;clear hK' K')
    refine aE (g:=some (46,false)) rfl rfl fun K' hK'=>?_;simp (maxSteps:=4000000) only[sH,↓sP,sA,tyS,simprocAttr,List.length_map,h3_29,h3_32,h3_38,h3_49];repeat refine AI ?_
    refine hK' _ _ ?_;clear hK' K';refine aE (g:=none) rfl rfl fun K' hK'=>?_;simp (maxSteps:=4000000) only[sH,↓sP,sA,tyS,simprocAttr,List.length_map,h3_29,h3_32,h3_38,h3_49];repeat refine AI ?_
    refine hK' _ _ ?_;clear hK' K';refine aG 54 rfl (fun h3_54=>?_) (fun h3_54=>?_)
    · simp only[h3_54];simp only[sE,↓reduceIte,simprocAttr];exact key true _ _ _ (by first|(simp only[kT,h3_29,h3_32,h3_38,h3_49,h3_54,Bool.not_true,Bool.not_false,Bool.true_or,Bool.false_or,Bool.true_and,Bool.false_and];done)|(exfalso;first|exact kk1 (by assumption) (by assumption)|exact kk2 (by assumption) (by assumption))) (aM (by omega) (by simp[aW,fin_at,finA_at,upd_at,HV.men,HV.menL,HV.norm,HV.toC,HV.toCL]) (by simp[aX,fob_at,upd_at,none0_at,bI,HO.men,HV.men,HV.menL,HV.norm,HV.toC,HV.toCL]))
    simp only[h3_54];simp only[sE,↓reduceIte,simprocAttr];exact key false _ _ _ (by first|(simp only[kT,h3_29,h3_32,h3_38,h3_49,h3_54,Bool.not_true,Bool.not_false,Bool.true_or,Bool.false_or,Bool.true_and,Bool.false_and];done)|(exfalso;first|exact kk1 (by assumption) (by assumption)|exact kk2 (by assumption) (by assumption))) (aM (by omega) (by simp[aW,fin_at,finA_at,upd_at,HV.men,HV.menL,HV.norm,HV.toC,HV.toCL]) (by simp[aX,fob_at,upd_at,none0_at,bI,HO.men,HV.men,HV.menL,HV.norm,HV.toC,HV.toCL]))
   iterate 4
    (refine aE (g:=some (50,true)) rfl rfl fun K' hK'=>?_;simp only[sH,↓sP,sA,tyS,simprocAttr,List.length_map,h3_29,h3_32,h3_38,h3_49];(repeat refine AI ?_);refine hK' _ _ ?_;clear hK' K')
   refine aE (g:=some (46,false)) rfl rfl fun K' hK'=>?_;simp (maxSteps:=4000000) only[sH,↓sP,sA,tyS,simprocAttr,List.length_map,h3_29,h3_32,h3_38,h3_49];repeat refine AI ?_
   refine hK' _ _ ?_;clear hK' K';refine aE (g:=none) rfl rfl fun K' hK'=>?_;simp (maxSteps:=4000000) only[sH,↓sP,sA,tyS,simprocAttr,List.length_map,h3_29,h3_32,h3_38,h3_49];repeat refine AI ?_
   refine hK' _ _ ?_;clear hK' K';simp only[sE,↓reduceIte,simprocAttr];exact key false _ _ _ (by first|(simp only[kT,h3_29,h3_32,h3_38,h3_49,Bool.not_true,Bool.not_false,Bool.true_or,Bool.false_or,Bool.true_and,Bool.false_and];done)|(exfalso;first|exact kk1 (by assumption) (by assumption)|exact kk2 (by assumption) (by assumption))) (aM (by omega) (by simp[aW,fin_at,finA_at,upd_at,HV.men,HV.menL,HV.norm,HV.toC,HV.toCL]) (by simp[aX,fob_at,upd_at,none0_at,bI,HO.men,HV.men,HV.menL,HV.norm,HV.toC,HV.toCL]))
  iterate 4
   (refine aE (g:=some (35,false)) rfl rfl fun K' hK'=>?_;simp only[sH,↓sP,sA,tyS,simprocAttr,List.length_map,h3_29,h3_32];(repeat refine AI ?_);refine hK' _ _ ?_;clear hK' K')
  iterate 4
   (refine aE (g:=some (39,true)) rfl rfl fun K' hK'=>?_;simp only[sH,↓sP,sA,tyS,simprocAttr,List.length_map,h3_29,h3_32];(repeat refine AI ?_);refine hK' _ _ ?_;clear hK' K')
  refine aE (g:=some (35,false)) rfl rfl fun K' hK'=>?_;simp (maxSteps:=4000000) only[sH,↓sP,sA,tyS,simprocAttr,List.length_map,h3_29,h3_32];repeat refine AI ?_
  refine hK' _ _ ?_;clear hK' K';iterate 2
   (refine aE (g:=none) rfl rfl fun K' hK'=>?_;simp only[sH,↓sP,sA,tyS,simprocAttr,List.length_map,h3_29,h3_32];(repeat refine AI ?_);refine hK' _ _ ?_;clear hK' K')
  iterate 4
   (refine aE (g:=some (46,false)) rfl rfl fun K' hK'=>?_;simp only[sH,↓sP,sA,tyS,simprocAttr,List.length_map,h3_29,h3_32];(repeat refine AI ?_);refine hK' _ _ ?_;clear hK' K')
  iterate 4
   (refine aE (g:=some (50,true)) rfl rfl fun K' hK'=>?_;simp only[sH,↓sP,sA,tyS,simprocAttr,List.length_map,h3_29,h3_32];(repeat refine AI ?_);refine hK' _ _ ?_;clear hK' K')
  refine aE (g:=some (46,false)) rfl rfl fun K' hK'=>?_;simp (maxSteps:=4000000) only[sH,↓sP,sA,tyS,simprocAttr,List.length_map,h3_29,h3_32];repeat refine AI ?_
  refine hK' _ _ ?_;clear hK' K';refine aE (g:=none) rfl rfl fun K' hK'=>?_;simp (maxSteps:=4000000) only[sH,↓sP,sA,tyS,simprocAttr,List.length_map,h3_29,h3_32];repeat refine AI ?_
  refine hK' _ _ ?_;clear hK' K';simp only[sE,↓reduceIte,simprocAttr];exact key true _ _ _ (by first|(simp only[kT,h3_29,h3_32,Bool.not_true,Bool.not_false,Bool.true_or,Bool.false_or,Bool.true_and,Bool.false_and];done)|(exfalso;first|exact kk1 (by assumption) (by assumption)|exact kk2 (by assumption) (by assumption))) (aM (by omega) (by simp[aW,fin_at,finA_at,upd_at,HV.men,HV.menL,HV.norm,HV.toC,HV.toCL]) (by simp[aX,fob_at,upd_at,none0_at,bI,HO.men,HV.men,HV.menL,HV.norm,HV.toC,HV.toCL]))
 iterate 2
  (refine aE (g:=some (31,false)) rfl rfl fun K' hK'=>?_;simp only[sH,↓sP,sA,tyS,simprocAttr,List.length_map,h3_29];(repeat refine AI ?_);refine hK' _ _ ?_;clear hK' K')
 iterate 2
  (refine aE (g:=none) rfl rfl fun K' hK'=>?_;simp only[sH,↓sP,sA,tyS,simprocAttr,List.length_map,h3_29];(repeat refine AI ?_);refine hK' _ _ ?_;clear hK' K')
 iterate 4
  (refine aE (g:=some (35,false)) rfl rfl fun K' hK'=>?_;simp only[sH,↓sP,sA,tyS,simprocAttr,List.length_map,h3_29];(repeat refine AI ?_);refine hK' _ _ ?_;clear hK' K')
 iterate 4
  (refine aE (g:=some (39,true)) rfl rfl fun K' hK'=>?_;simp only[sH,↓sP,sA,tyS,simprocAttr,List.length_map,h3_29];(repeat refine AI ?_);refine hK' _ _ ?_;clear hK' K')
 refine aE (g:=some (35,false)) rfl rfl fun K' hK'=>?_;simp (maxSteps:=4000000) only[sH,↓sP,sA,tyS,simprocAttr,List.length_map,h3_29];repeat refine AI ?_
 refine hK' _ _ ?_;clear hK' K';iterate 2
  (refine aE (g:=none) rfl rfl fun K' hK'=>?_;simp only[sH,↓sP,sA,tyS,simprocAttr,List.length_map,h3_29];(repeat refine AI ?_);refine hK' _ _ ?_;clear hK' K')
 iterate 4
  (refine aE (g:=some (46,false)) rfl rfl fun K' hK'=>?_;simp only[sH,↓sP,sA,tyS,simprocAttr,List.length_map,h3_29];(repeat refine AI ?_);refine hK' _ _ ?_;clear hK' K')
 iterate 4
  (refine aE (g:=some (50,true)) rfl rfl fun K' hK'=>?_;simp only[sH,↓sP,sA,tyS,simprocAttr,List.length_map,h3_29];(repeat refine AI ?_);refine hK' _ _ ?_;clear hK' K')
 refine aE (g:=some (46,false)) rfl rfl fun K' hK'=>?_;simp (maxSteps:=4000000) only[sH,↓sP,sA,tyS,simprocAttr,List.length_map,h3_29];repeat refine AI ?_
 refine hK' _ _ ?_;clear hK' K';refine aE (g:=none) rfl rfl fun K' hK'=>?_;simp (maxSteps:=4000000) only[sH,↓sP,sA,tyS,simprocAttr,List.length_map,h3_29];repeat refine AI ?_
 refine hK' _ _ ?_;clear hK' K';simp only[sE,↓reduceIte,simprocAttr];exact key true _ _ _ (by first|(simp only[kT,h3_29,Bool.not_true,Bool.not_false,Bool.true_or,Bool.false_or,Bool.true_and,Bool.false_and];done)|(exfalso;first|exact kk1 (by assumption) (by assumption)|exact kk2 (by assumption) (by assumption))) (aM (by omega) (by simp[aW,fin_at,finA_at,upd_at,HV.men,HV.menL,HV.norm,HV.toC,HV.toCL]) (by simp[aX,fob_at,upd_at,none0_at,bI,HO.men,HV.men,HV.menL,HV.norm,HV.toC,HV.toCL]))
end Go.Proofs.YthedbjfipmkpiaaGreatDoor
