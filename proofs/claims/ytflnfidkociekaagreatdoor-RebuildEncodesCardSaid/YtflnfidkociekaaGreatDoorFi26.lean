/- RebuildEncodes: for any report, any bytes and any tape of numbers the law returns true and leaves them as they were: Valid, Encode and Decode of reports answer as the reference does, and Decode of an encoded report returns it. The listed tables of the library are tied to the program's text by the card. By an AI agent. -/
import Derived.Test.YtflnfidkociekaaGreatDoorHeT6
import Derived.Test.YtflnfidkociekaaGreatDoorHlTab
import Derived.Test.YtflnfidkociekaaGreatDoorPl18e
import Derived.Shelf.SlIter.Nil
import Derived.Shelf.SortM.Plain
import Derived.Shelf.SortM.SortNone
import Derived.Ground.GgzProg
import Derived.Ground.SlgmProg
import Derived.Test.YtflnfidkociekaaGreatDoorHeU1
import Derived.Lay
import Derived.SevenTiedAt
import Derived.Test.YtflnfidkociekaaGreatDoorRows
import Derived.Test.YtflnfidkociekaaGreatDoorCards
import Derived.Test.YtflnfidkociekaaGreatDoorTie
set_option linter.unusedSimpArgs false
set_option linter.unusedVariables false
set_option linter.defProp false
namespace Go.Proofs.YtflnfidkociekaaGreatDoor
open Go Go.Hl Go.Pl
set_option maxRecDepth 10000
set_option maxHeartbeats 2000000
theorem aW1 (hkeys: ∀D:MD,aQ8 Tryz.prog 45 63 84 27 97 D)(hsort: ∀D:MD,MOk D→D.length≤2^40→vM Tryz.prog 44 63 84 27 97 D)
  (s r o:Dig) (l:List Rb) (t:Int) (hl:l.length<2^39) (hw: ∀x∈l,x.w.length≤maxLen):cL Tryz.prog 27 [.agg [dg s,dg r,dg o],.slc (l.map Rb.cv),.int .i64 t] (fun v=>v=rb 0 (iY s r o t l).a (iY s r o t l).d (iY s r o t l).f):=by
 refine bI Tryz.func27 rfl (by kernel_rfl) (bJ _) (Nat.le_of_ble_eq_true rfl) ?_;refine aD fun K hK=>aC (by kernel_rfl) ?_;simp (maxSteps:=4000000) only[↓sP,sA,tyS,simprocAttr];repeat refine AI ?_
 refine hK _ _ _ ?_;clear hK K;refine aD fun K hK=>aC (by kernel_rfl) ?_;simp (maxSteps:=4000000) only[↓sP,sA,tyS,simprocAttr];repeat refine AI ?_
 refine hK _ _ _ ?_;clear hK K;refine aD fun K hK=>?_;refine aD fun K hK=>aC (by kernel_rfl) ?_;simp (maxSteps:=4000000) only[↓sP,sA,tyS,simprocAttr];repeat refine AI ?_
 refine hK _ _ _ ?_;clear hK K;refine bE ?_;refine cA (α:={i:Nat//i≤l.length}) (fun i=>(fin [(1,.c (.slc (l.map Rb.cv))),(2,.c (.int .i64 t)),(3,.ptr 0 0),(6,.ptr 4 0),(7,.mapr 8),(17,.c (.slc (l.map Rb.cv))),(18,.c (.int .i64 l.length)),(19,.c (.int .i64 i.1))],fob [(0,.box 25 (.c (.agg [dg s,dg r,dg o]))),(4,.box 60 (.c (.agg [.int .i64 0,.nils,.nils,.nils]))),(8,.mp 27 97 (grp ((l.take i.1).filter (mO s r t))))])) 29 (fun i=>l.length-i.1) ⟨0,by omega⟩ (aS (by omega) (by simp[bK,fin_at,finA_at,upd_at,HV.men]) (by simp[bM,fob_at,upd_at,none0_at,HO.men,HV.men,grp])) ?_;rintro⟨i,hi⟩;obtain⟨m,hm⟩: ∃m,m=(l.take i).filter (mO s r t):=⟨_,rfl⟩;have hml:m.length≤i:=by rw[hm];exact Nat.le_trans (List.length_filter_le _ _) (by simp;omega)
 simp only[←hm];refine aD fun K hK=>aC (by kernel_rfl) ?_;simp (maxSteps:=4000000) only[↓sP,sA,tyS,simprocAttr];repeat refine AI ?_
 refine hK _ _ _ ?_;clear hK K;refine aD fun K hK=>?_;refine aQ (b:=decide ((i:Int)<l.length)) rfl (fun hb=>?_) (fun hb=>?_)
 ·
  have hlt:i<l.length:=by simpa using hb
  have hwl:l[i].w.length≤maxLen:=hw _ (List.getElem_mem hlt);have hrl:=zZ m l[i].w;refine aV ?_;simp (maxSteps:=4000000) only[↓sP,sA,tyS,simprocAttr];repeat refine AI ?_
  refine hK _ _ _ ?_;clear hK K;refine aD fun K hK=>?_;have key: ∀(m':List Rb) fr ob nx,m'=(l.take (i+1)).filter (mO s r t)→Fits 0 fr ob (fin [(1,.c (.slc (l.map Rb.cv))),(2,.c (.int .i64 t)),(3,.ptr 0 0),(6,.ptr 4 0),(7,.mapr 8),(17,.c (.slc (l.map Rb.cv))),(18,.c (.int .i64 l.length)),(19,.c (.int .i64 i))]) (fob [(0,.box 25 (.c (.agg [dg s,dg r,dg o]))),(4,.box 60 (.c (.agg [.int .i64 0,.nils,.nils,.nils]))),(8,.mp 27 97 (grp m'))]) 400→K fr ob nx:=by
   rintro m' fr ob nx rfl hf;refine hK _ _ _ (cN hf ?_);clear hf hK K;refine aC (by kernel_rfl) ?_;simp (maxSteps:=4000000) only[↓sP,sA,tyS,simprocAttr,IntWalk.i64_in _ (show-9223372036854775808≤(i:Int)+1∧(i:Int)+1≤9223372036854775807 by omega)];refine⟨⟨i+1,hlt⟩,aS (by omega) (by simp[bK,fin_at,finA_at,upd_at,HV.men,HV.menL,HV.norm,HV.toC,HV.toCL]) (by simp[bM,fob_at,upd_at,none0_at,bY,HO.men,HV.men,HV.menL,HV.norm,HV.toC,HV.toCL]),?_⟩;show l.length-(i+1)<l.length-i;omega
  refine bE ?_;refine aD fun K hK=>aC (by kernel_rfl) ?_;simp only[sR,simprocAttr];iterate 4
   (refine aB (g:=none) rfl rfl fun K' hK'=>?_;simp only[sH,↓sP,sA,tyS,simprocAttr,Int.natCast_nonneg,Int.ofNat_lt,hlt,bN hlt];(repeat refine AI ?_);refine hK' _ _ ?_;clear hK' K')
  simp only[sE,↓reduceIte,simprocAttr];repeat refine AI ?_
  refine hK _ _ _ ?_;clear hK K;refine aD fun K hK=>aC (by kernel_rfl) ?_;simp only[sR,simprocAttr];iterate 5
   (refine aB (g:=none) rfl rfl fun K' hK'=>?_;simp only[sH,↓sP,sA,tyS,simprocAttr];(repeat refine AI ?_);refine hK' _ _ ?_;clear hK' K')
  simp only[sE,↓reduceIte,simprocAttr];repeat refine AI ?_
  refine hK _ _ _ ?_;clear hK K;cases h1:(l[i].p.s==s)
  ·
   refine aD fun K hK=>aC (by kernel_rfl) ?_;simp only[sR,simprocAttr];iterate 6
    (refine aB (g:=none) rfl rfl fun K' hK'=>?_;simp only[sH,↓sP,sA,tyS,simprocAttr,h1];(repeat refine AI ?_);refine hK' _ _ ?_;clear hK' K')
   iterate 5
    (refine aB (g:=some (31,true)) rfl rfl fun K' hK'=>?_;simp only[sH,↓sP,sA,tyS,simprocAttr,h1];(repeat refine AI ?_);refine hK' _ _ ?_;clear hK' K')
   iterate 2
    (refine aB (g:=none) rfl rfl fun K' hK'=>?_;simp only[sH,↓sP,sA,tyS,simprocAttr,h1];(repeat refine AI ?_);refine hK' _ _ ?_;clear hK' K')
   iterate 5
    (refine aB (g:=some (38,true)) rfl rfl fun K' hK'=>?_;simp only[sH,↓sP,sA,tyS,simprocAttr,h1];(repeat refine AI ?_);refine hK' _ _ ?_;clear hK' K')
   refine aB (g:=none) rfl rfl fun K' hK'=>?_;simp (maxSteps:=4000000) only[sH,↓sP,sA,tyS,simprocAttr,h1];repeat refine AI ?_
   refine hK' _ _ ?_;clear hK' K';simp only[sE,↓reduceIte,simprocAttr];repeat refine AI ?_
   refine hK _ _ _ ?_;clear hK K;refine aQ (b:=false) rfl (fun hb=>?_) (fun hb=>?_)
   · cases hb
   refine aV ?_;simp (maxSteps:=4000000) only[↓sP,sA,tyS,simprocAttr];exact key m _ _ _ (by rw[hm];simp[gT _ _ _ hlt,mO,h1]) (aS (by omega) (by simp[bK,fin_at,finA_at,upd_at,HV.men,HV.menL,HV.norm,HV.toC,HV.toCL]) (by simp[bM,fob_at,upd_at,none0_at,bY,HO.men,HV.men,HV.menL,HV.norm,HV.toC,HV.toCL]))
  cases h2:(l[i].p.r==r)
  ·
   refine aD fun K hK=>aC (by kernel_rfl) ?_;simp only[sR,simprocAttr];iterate 6
    (refine aB (g:=none) rfl rfl fun K' hK'=>?_;simp only[sH,↓sP,sA,tyS,simprocAttr,h1,h2];(repeat refine AI ?_);refine hK' _ _ ?_;clear hK' K')
   iterate 5
    (refine aB (g:=some (31,true)) rfl rfl fun K' hK'=>?_;simp only[sH,↓sP,sA,tyS,simprocAttr,h1,h2];(repeat refine AI ?_);refine hK' _ _ ?_;clear hK' K')
   iterate 2
    (refine aB (g:=none) rfl rfl fun K' hK'=>?_;simp only[sH,↓sP,sA,tyS,simprocAttr,h1,h2];(repeat refine AI ?_);refine hK' _ _ ?_;clear hK' K')
   iterate 5
    (refine aB (g:=some (38,true)) rfl rfl fun K' hK'=>?_;simp only[sH,↓sP,sA,tyS,simprocAttr,h1,h2];(repeat refine AI ?_);refine hK' _ _ ?_;clear hK' K')
   refine aB (g:=none) rfl rfl fun K' hK'=>?_;simp (maxSteps:=4000000) only[sH,↓sP,sA,tyS,simprocAttr,h1,h2];repeat refine AI ?_
   refine hK' _ _ ?_;clear hK' K';simp only[sE,↓reduceIte,simprocAttr];repeat refine AI ?_
   refine hK _ _ _ ?_;clear hK K;refine aQ (b:=false) rfl (fun hb=>?_) (fun hb=>?_)
   · cases hb
   refine aV ?_;simp (maxSteps:=4000000) only[↓sP,sA,tyS,simprocAttr];exact key m _ _ _ (by rw[hm];simp[gT _ _ _ hlt,mO,h1,h2]) (aS (by omega) (by simp[bK,fin_at,finA_at,upd_at,HV.men,HV.menL,HV.norm,HV.toC,HV.toCL]) (by simp[bM,fob_at,upd_at,none0_at,bY,HO.men,HV.men,HV.menL,HV.norm,HV.toC,HV.toCL]))
  refine aD fun K hK=>aC (by kernel_rfl) ?_;simp only[sR,simprocAttr];iterate 6
   (refine aB (g:=none) rfl rfl fun K' hK'=>?_;simp only[sH,↓sP,sA,tyS,simprocAttr,h1,h2,Int.natCast_nonneg,Int.ofNat_lt,hlt,bN hlt];(repeat refine AI ?_);refine hK' _ _ ?_;clear hK' K')
  iterate 5
   (refine aB (g:=some (31,true)) rfl rfl fun K' hK'=>?_;simp only[sH,↓sP,sA,tyS,simprocAttr,h1,h2,Int.natCast_nonneg,Int.ofNat_lt,hlt,bN hlt];(repeat refine AI ?_);refine hK' _ _ ?_;clear hK' K')
  iterate 2
   (refine aB (g:=none) rfl rfl fun K' hK'=>?_;simp only[sH,↓sP,sA,tyS,simprocAttr,h1,h2,Int.natCast_nonneg,Int.ofNat_lt,hlt,bN hlt];(repeat refine AI ?_);refine hK' _ _ ?_;clear hK' K')
  iterate 5
   (refine aB (g:=some (38,true)) rfl rfl fun K' hK'=>?_;simp only[sH,↓sP,sA,tyS,simprocAttr,h1,h2,Int.natCast_nonneg,Int.ofNat_lt,hlt,bN hlt];(repeat refine AI ?_);refine hK' _ _ ?_;clear hK' K')
  refine aB (g:=none) rfl rfl fun K' hK'=>?_;simp (maxSteps:=4000000) only[sH,↓sP,sA,tyS,simprocAttr,h1,h2,Int.natCast_nonneg,Int.ofNat_lt,hlt,bN hlt];repeat refine AI ?_
  refine hK' _ _ ?_;clear hK' K';simp only[sE,↓reduceIte,simprocAttr];repeat refine AI ?_
  refine hK _ _ _ ?_;clear hK K;refine aQ (b:=decide (l[i].p.at_≤t)) rfl (fun hb=>?_) (fun hb=>?_)
  ·
   refine eL mixed [(0,[],[]),(1,[],[]),(2,[],[]),(3,[],[]),(4,[],[]),(5,[],[]),(6,[],[]),(7,[],[]),(8,[],[]),(9,[],[]),(10,[],[0,1,2]),(11,[],[])] [0,0,2,0,0,16,56,0,128,384,1016,2047] (by kernel_rfl) (by kernel_rfl) (by kernel_rfl) (by kernel_rfl) rfl (by kernel_rfl) ?_;iterate 12
    (refine bR (g:=none) rfl rfl fun K' hK'=>?_;simp only[sH,↓sP,sA,tyS,simprocAttr,zX,zY,hwl,bZ,aO5,zW,xO,List.length_append,List.length_cons,List.length_nil,Rp.cells];(repeat refine AI ?_);refine hK' _ _ ?_;clear hK' K')
   simp only[sE,↓reduceIte,simprocAttr];exact key (m++[l[i]]) _ _ _ (by simp at hb;rw[hm];simp[gT _ _ _ hlt,mO,h1,h2,hb]) (aS (by omega) (by simp[bK,fin_at,finA_at,upd_at,HV.men]) (by simp[bM,fob_at,upd_at,none0_at,HO.men,HV.men,xP,aQ9]))
  refine aV ?_;simp (maxSteps:=4000000) only[↓sP,sA,tyS,simprocAttr];exact key m _ _ _ (by simp at hb;rw[hm];simp[gT _ _ _ hlt,mO,h1,h2,hb]) (aS (by omega) (by simp[bK,fin_at,finA_at,upd_at,HV.men,HV.menL,HV.norm,HV.toC,HV.toCL]) (by simp[bM,fob_at,upd_at,none0_at,bY,HO.men,HV.men,HV.menL,HV.norm,HV.toC,HV.toCL]))
 have hei:i=l.length:=by simp at hb;omega
 subst hei;rw[List.take_length]at hm;refine bW ?_;simp (maxSteps:=4000000) only[↓sP,sA,tyS,simprocAttr];clear hK K;repeat refine AI ?_
 refine hK _ _ _ ?_;clear hK K;have hko:=(fB m).1;have hkl:(grp m).length≤2^40:=Nat.le_trans (fB m).2.1 (by omega);have hkn:=aA0 m;refine cN (fr2:=fin [(3,.ptr 0 0),(6,.ptr 4 0),(7,.mapr 8)]) (ob2:=fob [(0,.box 25 (.c (.agg [dg s,dg r,dg o]))),(4,.box 60 (.c (.agg [.int .i64 0,.nils,.nils,.nils]))),(8,.mp 27 97 (grp m))]) (nx2:=30) (aS (by omega) (by simp[bK,fin_at,finA_at,upd_at,HV.men,HV.menL,HV.norm,HV.toC,HV.toCL]) (by simp[bM,fob_at,upd_at,none0_at,bY,HO.men,HV.men,HV.menL,HV.norm,HV.toC,HV.toCL])) ?_;refine aD fun K hK=>aC (by kernel_rfl) ?_;simp (maxSteps:=4000000) only[↓sP,sA,tyS,simprocAttr];repeat refine AI ?_
 refine hK _ _ _ ?_;clear hK K;refine aD fun K hK=>?_;refine aD fun K hK=>aC (by kernel_rfl) ?_;simp only[sR,simprocAttr];refine aB (g:=none) rfl rfl fun K' hK'=>?_;simp (maxSteps:=4000000) only[sH,↓sP,sA,tyS,simprocAttr];repeat refine AI ?_
 refine hK' _ _ ?_;clear hK' K';refine aB (g:=none) rfl rfl fun K' hK'=>?_;simp (maxSteps:=4000000) only[sH,↓sP,sA,tyS,simprocAttr];refine aJ0 (hkeys (grp m)) rfl (by simp) ⟨rfl,rfl,rfl,rfl⟩ ?_;repeat refine AI ?_
 refine hK' _ _ ?_;clear hK' K';refine aB (g:=none) rfl rfl fun K' hK'=>?_;simp (maxSteps:=4000000) only[sH,↓sP,sA,tyS,simprocAttr];refine xN (id:=8) (hsort (grp m) hko hkl) rfl rfl (by simp) ⟨rfl,rfl,rfl,rfl⟩ ?_;show K' _ _;repeat refine AI ?_
 refine hK' _ _ ?_;clear hK' K';iterate 2
  (refine aB (g:=none) rfl rfl fun K' hK'=>?_;simp only[sH,↓sP,sA,tyS,simprocAttr];(repeat refine AI ?_);refine hK' _ _ ?_;clear hK' K')
 simp only[sE,↓reduceIte,simprocAttr];repeat refine AI ?_
 refine hK _ _ _ ?_;clear hK K;refine bE ?_;refine pZ 30 1 9 1 rfl rfl rfl rfl ?_;refine pZ 30 2 9 1 rfl rfl rfl rfl ?_;refine pZ 30 3 9 1 rfl rfl rfl rfl ?_;obtain⟨ks,hks⟩: ∃ks,ks=fK m:=⟨_,rfl⟩;have hks':dQ (grp m)=ks:=hks.symm;simp only[hks'];refine cA (α:={k:Nat//k≤ks.length}) (fun k=>(fin [(3,.ptr 0 0),(6,.ptr 4 0),(7,.mapr 8),(11,.ptr 30 0),(59,.c (.slc (ks.map .str))),(60,.c (.int .i64 ks.length)),(61,.c (.int .i64 k.1))],fob [(0,.box 25 (.c (.agg [dg s,dg r,dg o]))),(4,.box 60 (.c (.agg [.int .i64 0,.nils,.nils,.nils]))),(8,.mp 27 97 (mQ (grp m) (ks.take k.1))),(30,.box 60 (.agg [.c (.int .i64 0),.own 54 ((ks.take k.1).foldl (dR m o) ⟨[],[],[]⟩).a.length,.own 55 ((ks.take k.1).foldl (dR m o) ⟨[],[],[]⟩).d.length,.own 56 ((ks.take k.1).foldl (dR m o) ⟨[],[],[]⟩).f.length])),(54,.row 9 1 (((ks.take k.1).foldl (dR m o) ⟨[],[],[]⟩).a.map .str)),(55,.row 9 1 (((ks.take k.1).foldl (dR m o) ⟨[],[],[]⟩).d.map .str)),(56,.row 9 1 (((ks.take k.1).foldl (dR m o) ⟨[],[],[]⟩).f.map .str))])) 57 (fun k=>ks.length-k.1) ⟨0,by omega⟩ (aS (by omega) (by simp[bK,fin_at,finA_at,upd_at,HV.men]) (by simp[bM,fob_at,upd_at,none0_at,HO.men,HV.men,HV.menL,mQ])) ?_;rintro⟨k,hk⟩;obtain⟨j,hj⟩: ∃j,j=(ks.take k).foldl (dR m o) ⟨[],[],[]⟩:=⟨_,rfl⟩;have hjl:j.a.length≤k∧j.d.length≤k∧j.f.length≤k:=by
  have:=aA3 m o (ks.take k);simp only[←hj,List.length_take]at this;omega
 have hksl:ks.length<2^39:=by rw[hks];omega
 simp only[←hj];refine aD fun K hK=>aC (by kernel_rfl) ?_;simp (maxSteps:=4000000) only[↓sP,sA,tyS,simprocAttr];repeat refine AI ?_
 refine hK _ _ _ ?_;clear hK K;refine aD fun K hK=>?_;refine aQ (b:=decide ((k:Int)<ks.length)) rfl (fun hb=>?_) (fun hb=>?_)
 ·
  have hlt:k<ks.length:=by simpa using hb
  have hget:cC (mQ (grp m) (ks.take k)) ks[k]=some (.row ((cK m ks[k]).map Rp.cv)):=by subst hks;exact aJ2 m hlt
  have hrne:cK m ks[k]≠[]:=by subst hks;exact rK.1 (List.getElem_mem hlt)
  have hrl:=rJ m ks[k];have hkw:ks[k].length≤maxLen:=by
   obtain⟨x,hx,e⟩:=aJ1.1 hrne;rw[←e];exact hw x (by rw[hm]at hx;exact(List.mem_filter.1 hx).1)
  have hLpos:0<(cZ (cK m ks[k])).length:=List.length_pos_iff.2 (aJ3 hrne);have hLlen:=aA2 (cK m ks[k]);refine aV ?_;simp (maxSteps:=4000000) only[↓sP,sA,tyS,simprocAttr];repeat refine AI ?_
  refine hK _ _ _ ?_;clear hK K;refine aD fun K hK=>?_;have key2: ∀(j':Jd) fr ob nx,j'=dR m o j ks[k]→Fits 0 fr ob (fin [(3,.ptr 0 0),(6,.ptr 4 0),(7,.mapr 8),(11,.ptr 30 0),(59,.c (.slc (ks.map .str))),(60,.c (.int .i64 ks.length)),(61,.c (.int .i64 k))]) (fob [(0,.box 25 (.c (.agg [dg s,dg r,dg o]))),(4,.box 60 (.c (.agg [.int .i64 0,.nils,.nils,.nils]))),(8,.mp 27 97 (mQ (grp m) (ks.take (k+1)))),(30,.box 60 (.agg [.c (.int .i64 0),.own 54 j'.a.length,.own 55 j'.d.length,.own 56 j'.f.length])),(54,.row 9 1 (j'.a.map .str)),(55,.row 9 1 (j'.d.map .str)),(56,.row 9 1 (j'.f.map .str))]) 900→K fr ob nx:=by
   rintro j' fr ob nx hj' hf;refine hK _ _ _ (cN hf ?_);clear hf hK K;refine aC (by kernel_rfl) ?_;simp (maxSteps:=4000000) only[↓sP,sA,tyS,simprocAttr,IntWalk.i64_in _ (show-9223372036854775808≤(k:Int)+1∧(k:Int)+1≤9223372036854775807 by omega)];have ej:(ks.take (k+1)).foldl (dR m o) ⟨[],[],[]⟩=j':=by rw[rD _ _ _ _ hlt,←hj,hj']
   refine⟨⟨k+1,hlt⟩,aS (by omega) (by simp[bK,fin_at,finA_at,upd_at,HV.men]) (by simp[bM,fob_at,upd_at,none0_at,HO.men,HV.men,HV.menL,ej]),?_⟩;show ks.length-(k+1)<ks.length-k;omega
  refine bE ?_;refine aD fun K hK=>aC (by kernel_rfl) ?_;simp (maxSteps:=4000000) only[↓sP,sA,tyS,simprocAttr,Int.natCast_nonneg,Int.ofNat_lt,hlt,bN hlt];repeat refine AI ?_
  refine hK _ _ _ ?_;clear hK K;refine aD fun K hK=>aC (by kernel_rfl) ?_;simp only[sR,simprocAttr];iterate 3
   (refine aB (g:=none) rfl rfl fun K' hK'=>?_;simp only[sH,↓sP,sA,tyS,simprocAttr,hget,lR,oI,hkw];(repeat refine AI ?_);refine hK' _ _ ?_;clear hK' K')
  refine aB (g:=none) rfl rfl fun K' hK'=>?_;simp (maxSteps:=4000000) only[sH,↓sP,sA,tyS,simprocAttr,hget,lR,oI,hkw];refine aI6 (aO1 (cK m ks[k]) hrne (by omega)) rfl hget (by simp) (by simp) ⟨rfl,rfl,rfl,rfl⟩ ?_;rintro u rfl;repeat refine AI ?_
  refine hK' _ _ ?_;clear hK' K';refine aB (g:=none) rfl rfl fun K' hK'=>?_;simp (maxSteps:=4000000) only[sH,↓sP,sA,tyS,simprocAttr,hget,lR,oI,hkw];repeat refine AI ?_
  refine hK' _ _ ?_;clear hK' K';simp only[sE,↓reduceIte,simprocAttr];repeat refine AI ?_
  refine hK _ _ _ ?_;clear hK K;refine aD fun K hK=>aC (by kernel_rfl) ?_;simp only[sR,simprocAttr];iterate 7
   (refine aB (g:=none) rfl rfl fun K' hK'=>?_;simp only[sH,↓sP,sA,tyS,simprocAttr,hLpos,Int.toNat_zero,bN hLpos];(repeat refine AI ?_);refine hK' _ _ ?_;clear hK' K')
  simp only[sE,↓reduceIte,simprocAttr];repeat refine AI ?_
  refine hK _ _ _ ?_;clear hK K;refine bE ?_;refine aD fun K hK=>aC (by kernel_rfl) ?_;simp only[sR,simprocAttr];iterate 2
   (refine aB (g:=none) rfl rfl fun K' hK'=>?_;simp only[sH,↓sP,sA,tyS,simprocAttr,denilL_rp];(repeat refine AI ?_);refine hK' _ _ ?_;clear hK' K')
  refine aB (g:=none) rfl rfl fun K' hK'=>?_;simp (maxSteps:=4000000) only[sH,↓sP,sA,tyS,simprocAttr,denilL_rp];refine xJ (yW (aN9 (cZ (cK m ks[k]))[0].o) (dg_denil _) (cZ (cK m ks[k])) (by omega)) rfl (by simp) ⟨rfl,rfl,rfl,rfl⟩ ?_;rintro u rfl;repeat refine AI ?_
  refine hK' _ _ ?_;clear hK' K';refine aB (g:=none) rfl rfl fun K' hK'=>?_;simp (maxSteps:=4000000) only[sH,↓sP,sA,tyS,simprocAttr,denilL_rp];repeat refine AI ?_
  refine hK' _ _ ?_;clear hK' K';simp only[sE,↓reduceIte,simprocAttr];repeat refine AI ?_
  refine hK _ _ _ ?_;clear hK K;refine aQ (b:=(cZ (cK m ks[k])).any (fun r=>!(r.o==(cZ (cK m ks[k]))[0].o))) rfl (fun hb=>?_) (fun hb=>?_)
  ·
   refine aC (by kernel_rfl) ?_;simp only[sR,simprocAttr];iterate 7
    (refine aB (g:=none) rfl rfl fun K' hK'=>?_;simp only[sH,↓sP,sA,tyS,simprocAttr,List.length_append];(repeat refine AI ?_);refine hK' _ _ ?_;clear hK' K')
   simp only[sE,↓reduceIte,simprocAttr];exact key2 {j with f:=j.f++[ks[k]]} _ _ _ (by rw[oJ hLpos,if_pos hb]) (aS (by omega) (by simp[bK,fin_at,finA_at,upd_at,HV.men,HV.menL]) (by simp[bM,fob_at,upd_at,none0_at,HO.men,HV.men,HV.menL,lS _ hlt]))
  have h80:=hb;refine aD fun K hK=>aC (by kernel_rfl) ?_;simp only[sR,simprocAttr];iterate 5
   (refine aB (g:=none) rfl rfl fun K' hK'=>?_;simp only[sH,↓sP,sA,tyS,simprocAttr];(repeat refine AI ?_);refine hK' _ _ ?_;clear hK' K')
  simp only[sE,↓reduceIte,simprocAttr];repeat refine AI ?_
  refine hK _ _ _ ?_;clear hK K;refine aQ (b:=(cZ (cK m ks[k]))[0].o==o) rfl (fun hb=>?_) (fun hb=>?_)
  ·
   refine aC (by kernel_rfl) ?_;simp only[sR,simprocAttr];iterate 7
    (refine aB (g:=none) rfl rfl fun K' hK'=>?_;simp only[sH,↓sP,sA,tyS,simprocAttr,List.length_append];(repeat refine AI ?_);refine hK' _ _ ?_;clear hK' K')
   simp only[sE,↓reduceIte,simprocAttr];exact key2 {j with a:=j.a++[ks[k]]} _ _ _ (by rw[oJ hLpos,if_neg (by rw[h80];simp),if_pos hb]) (aS (by omega) (by simp[bK,fin_at,finA_at,upd_at,HV.men,HV.menL]) (by simp[bM,fob_at,upd_at,none0_at,HO.men,HV.men,HV.menL,lS _ hlt]))
  refine aC (by kernel_rfl) ?_;simp only[sR,simprocAttr];iterate 7
   (refine aB (g:=none) rfl rfl fun K' hK'=>?_;simp only[sH,↓sP,sA,tyS,simprocAttr,List.length_append];(repeat refine AI ?_);refine hK' _ _ ?_;clear hK' K')
  simp only[sE,↓reduceIte,simprocAttr];exact key2 {j with d:=j.d++[ks[k]]} _ _ _ (by rw[oJ hLpos,if_neg (by rw[h80];simp),if_neg (by rw[hb];simp)]) (aS (by omega) (by simp[bK,fin_at,finA_at,upd_at,HV.men,HV.menL]) (by simp[bM,fob_at,upd_at,none0_at,HO.men,HV.men,HV.menL,lS _ hlt]))
 have hek:k=ks.length:=by simp at hb;omega
 subst hek;rw[List.take_length]at hj;refine bW ?_;simp (maxSteps:=4000000) only[↓sP,sA,tyS,simprocAttr];clear hK K;repeat refine AI ?_
 refine hK _ _ _ ?_;clear hK K;refine aD fun K hK=>aC (by kernel_rfl) ?_;simp (maxSteps:=4000000) only[↓sP,sA,tyS,simprocAttr];repeat refine AI ?_
 refine hK _ _ _ ?_;clear hK K;refine aT ?_;simp (maxSteps:=4000000) only[bA,Tryz.results27,aY,aZ,aX,↓sP,sA,tyS,simprocAttr];have ej:iY s r o t l=j:=by rw[hj,hks,hm];rfl
 rw[ej];refine⟨rfl,bF [54,55,56] (rb 0 j.a j.d j.f) ?_ rfl⟩;simp[HV.close,HV.closeL,CV.denil,HV.norm,HV.toC,HV.toCL,fob_at,upd_at,rb]
end Go.Proofs.YtflnfidkociekaaGreatDoor
namespace Go.Proofs.YtflnfidkociekaaGreatDoor
open Go.RowKit Go.Maps Go.Sort Go.Shelf
def sK :Go.Shelf.Ren:=⟨fun|7=>45|10=>63|n=>n,fun|23=>84|26=>9|3=>34|28=>87|0=>0|27=>86|33=>106|4=>4|n=>n,fun|n=>n⟩
theorem aW2 :Go.Proofs.SlLaysZ.n7 Tryz.prog sK:={
 mixed:=by kernel_rfl
 f7:=⟨Tryz.f45.name,by decide,Tryz.func45.trans (congrArg some (by kernel_rfl))⟩
 f10:=⟨Tryz.f63.name,by decide,Tryz.func63.trans (congrArg some (by kernel_rfl))⟩
 t0:=Tryz.underlying0
 a0:=Tryz.isAgg0
 z0:=Tryz.sizeOf0
 v0:=Tryz.zeroValue0
 t4:=Tryz.underlying4
 a4:=Tryz.isAgg4
 z4:=Tryz.sizeOf4
 v4:=Tryz.zeroValue4
 t23:=Tryz.underlying84
 a23:=Tryz.isAgg84
 z23:=Tryz.sizeOf84
 v23:=Tryz.zeroValue84
 t26:=Tryz.underlying9
 a26:=Tryz.isAgg9
 z26:=Tryz.sizeOf9
 v26:=Tryz.zeroValue9
 t27:=Tryz.underlying86
 a27:=Tryz.isAgg86
 z27:=Tryz.sizeOf86
 v27:=Tryz.zeroValue86
 t28:=Tryz.underlying87
 a28:=Tryz.isAgg87
 z28:=Tryz.sizeOf87
 v28:=Tryz.zeroValue87
 t33:=Tryz.underlying106
 a33:=Tryz.isAgg106
 z33:=Tryz.sizeOf106
 v33:=Tryz.zeroValue106}
def nN :Go.Shelf.Ren:=⟨fun|6=>44|8=>61|9=>62|11=>84|13=>86|12=>85|23=>110|24=>89|14=>101|15=>102|16=>103|17=>104|18=>105|19=>106|20=>107|21=>108|22=>109|25=>116|26=>117|27=>118|28=>119|29=>120|30=>121|31=>123|n=>n,fun|26=>9|28=>87|24=>48|0=>0|3=>3|37=>97|48=>131|50=>71|4=>4|40=>139|39=>138|45=>143|5=>5|9=>9|51=>150|55=>154|57=>158|58=>159|33=>106|n=>n,fun|n=>n⟩
theorem aW3 :Go.Proofs.SlLaysZ.n6 Tryz.prog nN:={
 mixed:=by kernel_rfl
 f6:=⟨Tryz.f44.name,by decide,Tryz.func44.trans (congrArg some (by kernel_rfl))⟩
 f8:=⟨Tryz.f61.name,by decide,Tryz.func61.trans (congrArg some (by kernel_rfl))⟩
 f11:=⟨Tryz.f84.name,by decide,Tryz.func84.trans (congrArg some (by kernel_rfl))⟩
 t0:=Tryz.underlying0
 a0:=Tryz.isAgg0
 z0:=Tryz.sizeOf0
 v0:=Tryz.zeroValue0
 t24:=Tryz.underlying48
 a24:=Tryz.isAgg48
 z24:=Tryz.sizeOf48
 v24:=Tryz.zeroValue48
 t26:=Tryz.underlying9
 a26:=Tryz.isAgg9
 z26:=Tryz.sizeOf9
 v26:=Tryz.zeroValue9
 t28:=Tryz.underlying87
 a28:=Tryz.isAgg87
 z28:=Tryz.sizeOf87
 v28:=Tryz.zeroValue87
 i26:=by kernel_rfl}
def aC9 :Go.Shelf.Ren:=⟨fun|6=>62|8=>86|9=>85|19=>110|20=>89|21=>101|22=>102|23=>103|24=>104|25=>105|26=>106|27=>107|28=>108|29=>109|36=>116|31=>117|32=>118|37=>119|38=>120|39=>121|41=>123|n=>n,fun|27=>48|29=>9|3=>3|32=>97|26=>48|0=>0|44=>131|46=>71|4=>4|36=>139|35=>138|41=>143|5=>5|9=>9|53=>150|57=>154|63=>158|64=>159|n=>n,fun|n=>n⟩
theorem aW4 :Go.Proofs.SlLaysM.n6 Tryz.prog aC9:={
 mixed:=by kernel_rfl
 f6:=⟨Tryz.f62.name,by decide,Tryz.func62.trans (congrArg some (by kernel_rfl))⟩
 f8:=Tryz.func86.trans (congrArg some (by kernel_rfl))
 f9:=⟨Tryz.f85.name,by decide,Tryz.func85.trans (congrArg some (by kernel_rfl))⟩
 f19:=Tryz.func110.trans (congrArg some (by kernel_rfl))
 f20:=Tryz.func89.trans (congrArg some (by kernel_rfl))
 f21:=⟨Tryz.f101.name,by decide,Tryz.func101.trans (congrArg some (by kernel_rfl))⟩
 f22:=⟨Tryz.f102.name,by decide,Tryz.func102.trans (congrArg some (by kernel_rfl))⟩
 f23:=⟨Tryz.f103.name,by decide,Tryz.func103.trans (congrArg some (by kernel_rfl))⟩
 f24:=⟨Tryz.f104.name,by decide,Tryz.func104.trans (congrArg some (by kernel_rfl))⟩
 f25:=⟨Tryz.f105.name,by decide,Tryz.func105.trans (congrArg some (by kernel_rfl))⟩
 f26:=⟨Tryz.f106.name,by decide,Tryz.func106.trans (congrArg some (by kernel_rfl))⟩
 f27:=⟨Tryz.f107.name,by decide,Tryz.func107.trans (congrArg some (by kernel_rfl))⟩
 f28:=⟨Tryz.f108.name,by decide,Tryz.func108.trans (congrArg some (by kernel_rfl))⟩
 f29:=⟨Tryz.f109.name,by decide,Tryz.func109.trans (congrArg some (by kernel_rfl))⟩
 f31:=Tryz.func117.trans (congrArg some (by kernel_rfl))
 f32:=Tryz.func118.trans (congrArg some (by kernel_rfl))
 f36:=⟨Tryz.f116.name,by decide,Tryz.func116.trans (congrArg some (by kernel_rfl))⟩
 f37:=⟨Tryz.f119.name,by decide,Tryz.func119.trans (congrArg some (by kernel_rfl))⟩
 f38:=⟨Tryz.f120.name,by decide,Tryz.func120.trans (congrArg some (by kernel_rfl))⟩
 f39:=⟨Tryz.f121.name,by decide,Tryz.func121.trans (congrArg some (by kernel_rfl))⟩
 f41:=⟨Tryz.f123.name,by decide,Tryz.func123.trans (congrArg some (by kernel_rfl))⟩
 t0:=Tryz.underlying0
 a0:=Tryz.isAgg0
 z0:=Tryz.sizeOf0
 v0:=Tryz.zeroValue0
 t3:=Tryz.underlying3
 a3:=Tryz.isAgg3
 z3:=Tryz.sizeOf3
 v3:=Tryz.zeroValue3
 t4:=Tryz.underlying4
 a4:=Tryz.isAgg4
 z4:=Tryz.sizeOf4
 v4:=Tryz.zeroValue4
 t5:=Tryz.underlying5
 a5:=Tryz.isAgg5
 z5:=Tryz.sizeOf5
 v5:=Tryz.zeroValue5
 t9:=Tryz.underlying9
 a9:=Tryz.isAgg9
 z9:=Tryz.sizeOf9
 v9:=Tryz.zeroValue9
 t26:=Tryz.underlying48
 a26:=Tryz.isAgg48
 z26:=Tryz.sizeOf48
 v26:=Tryz.zeroValue48
 t27:=Tryz.underlying48
 a27:=Tryz.isAgg48
 z27:=Tryz.sizeOf48
 v27:=Tryz.zeroValue48
 t29:=Tryz.underlying9
 a29:=Tryz.isAgg9
 z29:=Tryz.sizeOf9
 v29:=Tryz.zeroValue9
 t32:=Tryz.underlying97
 a32:=Tryz.isAgg97
 z32:=Tryz.sizeOf97
 v32:=Tryz.zeroValue97
 t35:=Tryz.underlying138
 a35:=Tryz.isAgg138
 z35:=Tryz.sizeOf138
 v35:=Tryz.zeroValue138
 t36:=Tryz.underlying139
 a36:=Tryz.isAgg139
 z36:=Tryz.sizeOf139
 v36:=Tryz.zeroValue139
 t41:=Tryz.underlying143
 a41:=Tryz.isAgg143
 z41:=Tryz.sizeOf143
 v41:=Tryz.zeroValue143
 t44:=Tryz.underlying131
 a44:=Tryz.isAgg131
 z44:=Tryz.sizeOf131
 v44:=Tryz.zeroValue131
 t46:=Tryz.underlying71
 a46:=Tryz.isAgg71
 z46:=Tryz.sizeOf71
 v46:=Tryz.zeroValue71
 t53:=Tryz.underlying150
 a53:=Tryz.isAgg150
 z53:=Tryz.sizeOf150
 v53:=Tryz.zeroValue150
 t57:=Tryz.underlying154
 a57:=Tryz.isAgg154
 z57:=Tryz.sizeOf154
 v57:=Tryz.zeroValue154
 t63:=Tryz.underlying158
 a63:=Tryz.isAgg158
 z63:=Tryz.sizeOf158
 v63:=Tryz.zeroValue158
 t64:=Tryz.underlying159
 a64:=Tryz.isAgg159
 z64:=Tryz.sizeOf159
 v64:=Tryz.zeroValue159}
theorem bB0 (m:Nat):AnyZ.SortsIn Tryz.prog nN Fence.wide m:=
 ⟨fun blk off cap ss W hH hblk hsz=>callsIn_wide.2 (AnyM.slices_Sort_string aW4 blk off cap ss W hH hblk hsz),
  fun p cap W=>callsIn_wide.2 (AnyM.slices_Sort_string_none aW4 p cap W)⟩
theorem bB1 (D:Hl.MD)(e:TypeId)(sz:Nat):Hl.aQ8 Tryz.prog 45 63 84 e sz D:=
 Hl.aQ7 (by kernel_rfl) fun b w=>callsIn_wide.1 (AnyZ.keys_in aW2 Fence.wide 5 trivial rfl (some b) w)
theorem aO3 (D:Hl.MD)(e:TypeId)(sz:Nat)(hD:Hl.MOk D)(hl:D.length≤2^40):Hl.vM Tryz.prog 44 63 84 e sz D:=by
 refine Hl.zU (by kernel_rfl) Tryz.underlying9 hD hl fun B b nn D0 w hB hc hown hmax hbytes=>(callsIn_wide (n:=5)).1 ?_;have hlen:Maps.size D0=(strKeys D0).length:=by
  obtain⟨es,clock,_,_,_,rfl⟩:=hown;simp[Maps.size,strKeys]
 have hseq:SeqGives Fence.wide 2 Tryz.prog 63 #[.pointer (some ⟨B,0,none⟩)] encStr (fun ss=>ss.Perm (strKeys D0)) (Maps.size D0) w:=
  AnyZ.keys_gives (ρ:=sK) {aW2 with} Fence.wide _ trivial rfl (by omega) B b nn D0 _ hB hc hown
 exact AnyZ.sorted_in aW3 Fence.wide 5 trivial trivial trivial trivial rfl (by omega) (bB0 _) (enters_of Tryz.func62 (by kernel_rfl) rfl) 63 #[.pointer (some ⟨B,0,none⟩)] trivial (enters_of Tryz.func63 (by kernel_rfl) rfl) _ _ (by rw[hlen];exact hmax) (by rw[hlen];exact hbytes) _ hseq
end Go.Proofs.YtflnfidkociekaaGreatDoor
namespace Go.Proofs.YtflnfidkociekaaGreatDoor
open Go Go.Hl Go.Pl
set_option maxRecDepth 10000
set_option maxHeartbeats 2000000
theorem dV (s:Int)(a d f:List aU):CV.getAt 0 4 true (rb s a d f)=some (rb s a d f):=rfl
theorem eO (s:Int)(a d f:List aU):(rb s a d f).denil=rb s a d f:=by simp[rb,CV.denil,CV.denilL,denilL_str]
theorem eP (s:Int)(a d f:List aU):(rb s a d f).isAgg=true:=rfl
theorem eQ (s:Int)(a d f:List aU):(rb s a d f).cells=4:=rfl
theorem jE (s:Int)(a d f:List aU):CV.getAt 1 1 false (rb s a d f)=some (.slc (a.map .str)):=rfl
theorem oV (s:Int)(a d f:List aU)(x:HV):CV.setAt 0 4 x (rb s a d f)=some x:=rfl
def yX :Rb:=⟨[97,110,110],⟨dg1 1,dg1 2,dg1 3,4⟩⟩
theorem aO4 :iY (dg1 1) (dg1 2) (dg1 3) 5 [yX]=⟨[[97,110,110]],[],[]⟩:=by
 have h:(iY (dg1 1) (dg1 2) (dg1 3) 5 [yX]).a=[[97,110,110]]∧(iY (dg1 1) (dg1 2) (dg1 3) 5 [yX]).d=[]∧(iY (dg1 1) (dg1 2) (dg1 3) 5 [yX]).f=[]:=by decide+kernel
 generalize iY (dg1 1) (dg1 2) (dg1 3) 5 [yX]=j at h⊢;obtain⟨a,d,f⟩:=j;simp_all
theorem aW5 :cL Tryz.prog 11 [] (fun v=>v= .bool true):=by
 refine bI Tryz.func11 rfl (by kernel_rfl) (bJ _) (Nat.le_of_ble_eq_true rfl) ?_;refine aD fun K hK=>aC (by kernel_rfl) ?_;simp (maxSteps:=4000000) only[↓sP,sA,tyS,simprocAttr];repeat refine AI ?_
 refine hK _ _ _ ?_;clear hK K;refine aD fun K hK=>aC (by kernel_rfl) ?_;simp only[sR,simprocAttr];iterate 6
  (refine aB (g:=none) rfl rfl fun K' hK'=>?_;simp only[sH,↓sP,sA,tyS,simprocAttr];(repeat refine AI ?_);refine hK' _ _ ?_;clear hK' K')
 simp only[sE,↓reduceIte,simprocAttr];repeat refine AI ?_
 refine hK _ _ _ ?_;clear hK K;refine aD fun K hK=>aC (by kernel_rfl) ?_;simp only[sR,simprocAttr];iterate 5
  (refine aB (g:=none) rfl rfl fun K' hK'=>?_;simp only[sH,↓sP,sA,tyS,simprocAttr,dV,eO,eP,eQ,oV];(repeat refine AI ?_);refine hK' _ _ ?_;clear hK' K')
 refine aB (g:=none) rfl rfl fun K' hK'=>?_;simp (maxSteps:=4000000) only[sH,↓sP,sA,tyS,simprocAttr,dV,eO,eP,eQ,oV];refine zV (e:=63) (sz:=98) (l:=[yX].map Rb.cv) [.agg [dg (dg1 1),dg (dg1 2),dg (dg1 3)]] [.int .i64 5] (aW1 (fun D=>bB1 D 27 97) (fun D h1 h2=>aO3 D 27 97 h1 h2) (dg1 1) (dg1 2) (dg1 3) [yX] 5 (by simp) (by simp[yX,maxLen])) rfl rfl (by simp) ⟨rfl,rfl,rfl,rfl⟩ ?_;rintro u rfl;rw[aO4];repeat refine AI ?_
 refine hK' _ _ ?_;clear hK' K';iterate 2
  (refine aB (g:=none) rfl rfl fun K' hK'=>?_;simp only[sH,↓sP,sA,tyS,simprocAttr,dV,eO,eP,eQ,oV];(repeat refine AI ?_);refine hK' _ _ ?_;clear hK' K')
 simp only[sE,↓reduceIte,simprocAttr];repeat refine AI ?_
 refine hK _ _ _ ?_;clear hK K;refine aD fun K hK=>aC (by kernel_rfl) ?_;simp only[sR,simprocAttr];iterate 5
  (refine aB (g:=none) rfl rfl fun K' hK'=>?_;simp only[sH,↓sP,sA,tyS,simprocAttr,dV,eO,eP,eQ,jE,Int.toNat_zero,nth];(repeat refine AI ?_);refine hK' _ _ ?_;clear hK' K')
 iterate 5
  (refine aB (g:=some (17,true)) rfl rfl fun K' hK'=>?_;simp only[sH,↓sP,sA,tyS,simprocAttr,dV,eO,eP,eQ,jE,Int.toNat_zero,nth];(repeat refine AI ?_);refine hK' _ _ ?_;clear hK' K')
 iterate 2
  (refine aB (g:=none) rfl rfl fun K' hK'=>?_;simp only[sH,↓sP,sA,tyS,simprocAttr,dV,eO,eP,eQ,jE,Int.toNat_zero,nth];(repeat refine AI ?_);refine hK' _ _ ?_;clear hK' K')
 refine aB (g:=some (24,true)) rfl rfl fun K' hK'=>?_;simp (maxSteps:=4000000) only[sH,↓sP,sA,tyS,simprocAttr,dV,eO,eP,eQ,jE,Int.toNat_zero,nth];repeat refine AI ?_
 refine hK' _ _ ?_;clear hK' K';refine aB (g:=some (24,true)) rfl rfl fun K' hK'=>?_;simp (maxSteps:=4000000) only[sH,↓sP,sA,tyS,simprocAttr,dV,eO,eP,eQ,jE,Int.toNat_zero,nth];refine bH (args:=[_,_,_]) (aV9 0 _ _ _ 1 0) ⟨rfl,rfl,rfl,rfl⟩ ?_;rintro u rfl;simp only[show sJ [[97,110,110]] [] 1 0=1 from rfl];repeat refine AI ?_
 refine hK' _ _ ?_;clear hK' K';refine aB (g:=some (24,true)) rfl rfl fun K' hK'=>?_;simp (maxSteps:=4000000) only[sH,↓sP,sA,tyS,simprocAttr,dV,eO,eP,eQ,jE,Int.toNat_zero,nth];repeat refine AI ?_
 refine hK' _ _ ?_;clear hK' K';iterate 2
  (refine aB (g:=none) rfl rfl fun K' hK'=>?_;simp only[sH,↓sP,sA,tyS,simprocAttr,dV,eO,eP,eQ,jE,Int.toNat_zero,nth];(repeat refine AI ?_);refine hK' _ _ ?_;clear hK' K')
 simp only[sE,↓reduceIte,simprocAttr];repeat refine AI ?_
 refine hK _ _ _ ?_;clear hK K;refine aT ?_;simp (maxSteps:=4000000) only[bA,Tryz.results11,aY,aZ,aX,↓sP,sA,tyS,simprocAttr];exact bF [] (.bool true) rfl rfl
set_option maxHeartbeats 4000000
attribute [local simp] tp
theorem bB2 (ls:List (List aU)):(lW ls).length≤262144:=by
 by_cases h:gB ls=0
 ·
  rw[lW,if_pos h];unfold gB at h;split at h
  · cases h
  split at h
  · rename_i l hl;have:=List.find?_some hl;simp[okL,h]at this
  split at h
  · cases h
  omega
 rw[lW,if_neg h];simp
theorem bE7 (x:Rp):(rpO x).length≤262144:=by
 unfold rpO;split
 · exact bB2 _
 simp
theorem nO :cQ=u8:=rfl
theorem bB3 (x:Rp):CV.ofTy Tryz.prog 8 27 x.cv=true:=by
 have h1: ∀d,CV.ofTy Tryz.prog 6 23 (dg d)=true:=fun d=>vK (n:=4) ty23 ty5 (by kernel_rfl) d;have c1:Program.cellsOf Tryz.prog 23=32:=by kernel_rfl
 have c2:Program.cellsOf Tryz.prog 25=96:=by kernel_rfl
 have c3:Program.cellsOf Tryz.prog 2=1:=by kernel_rfl
 have h2:CV.ofTy Tryz.prog 7 25 (.agg [dg x.s,dg x.r,dg x.o])=true:=by
  unfold CV.ofTy;rw[ty25];simp only[CV.ofTyF,h1,c1,dg_cells,beq_self_eq_true,Bool.and_self]
 have h3:CV.ofTy Tryz.prog 7 2 (.int .i64 x.at_)=true:=by unfold CV.ofTy;rw[ty2];rfl
 unfold Rp.cv CV.ofTy;rw[ty27];simp only[CV.ofTyF,h2,h3,c2,c3,CV.cells,CV.cellsL,dg_cells,beq_self_eq_true,Bool.and_self]
theorem yY (x:Rp)(K:CV→Prop):fY Tryz.prog .neq 27 (.c x.cv) (.c x.cv) K=K (.bool false):=by
 have h1:=bB3 x;have h2:CV.eqv x.cv x.cv=true:=by simp[Rp.cv,CV.eqv,CV.eqvL,aQ0]
 have h3:aD3 Tryz.prog 27=true:=by kernel_rfl
 unfold Rp.cv at h1 h2⊢;simp only[fY,h1,h2,h3,and_self,true_and,Bool.not_true]
def bsl (w:aU):CV:= .slc (w.map u8)
theorem yZ (r:Rp)(b:aU)(L:List Int):lT Tryz.prog 3 tabs [r.cv,.slc (b.map u8),.slc (L.map (CV.int .i64))] (fun v=>v= .bool true):=by
 refine bI (args:=[.c r.cv,.c (.slc (b.map u8)),.c (.slc (L.map (CV.int .i64)))]) Tryz.func3 rfl (by kernel_rfl) (iO tabs [r.cv,.slc (b.map u8),.slc (L.map (CV.int .i64))]) (Nat.le_of_ble_eq_true rfl) ?_;unfold fG;refine aD fun K hK=>aC (by kernel_rfl) ?_;simp (maxSteps:=4000000) only[↓sP,sA,tyS,simprocAttr];repeat refine AI ?_
 refine hK _ _ _ ?_;clear hK K;refine aD fun K hK=>?_;refine aD fun K hK=>aC (by kernel_rfl) ?_;simp (maxSteps:=4000000) only[↓sP,sA,tyS,simprocAttr,List.length_map];repeat refine AI ?_
 refine hK _ _ _ ?_;clear hK K;refine aQ (b:=decide ((100000:Int)<b.length)) rfl (fun hb=>?_) (fun hb=>?_)
 ·
  refine aD fun K hK=>aC (by kernel_rfl) ?_;simp (maxSteps:=4000000) only[↓sP,sA,tyS,simprocAttr];repeat refine AI ?_
  refine hK _ _ _ ?_;clear hK K;refine aT ?_;simp (maxSteps:=4000000) only[bA,Tryz.results3,aY,aZ,aX,↓sP,sA,tyS,simprocAttr];exact lU [] (.bool true) rfl rfl (by simp) rfl
 have hb1:b.length≤100000:=by simp at hb;omega
 clear hb;refine aV ?_;simp (maxSteps:=4000000) only[↓sP,sA,tyS,simprocAttr];repeat refine AI ?_
 refine hK _ _ _ ?_;clear hK K;refine aD fun K hK=>?_;refine aD fun K hK=>kV mixed [(0,[],[]),(1,[],[]),(2,[],[]),(3,[],[]),(7,[3],[]),(4,[],[0,7]),(5,[],[]),(6,[],[])] [0,0,2,6,14,31,63,0] (by kernel_rfl) (by kernel_rfl) (by kernel_rfl) (by kernel_rfl) rfl (by kernel_rfl) ?_;iterate 5
  (refine cB (g:=none) rfl rfl fun K' hK'=>?_;simp only[sH,↓sP,sA,tyS,simprocAttr,denilL_int];(repeat refine AI ?_);refine hK' _ _ ?_;clear hK' K')
 refine cB (g:=none) rfl rfl fun K' hK'=>?_;simp (maxSteps:=4000000) only[sH,↓sP,sA,tyS,simprocAttr,denilL_int];refine gK (args:=[]) (aO2 L 0 (by omega)) rfl (by simp) ⟨rfl,rfl,rfl,rfl⟩ ?_;rintro u v' ⟨p,a',rfl,_,_,rfl,_⟩;repeat refine AI ?_
 refine hK' _ _ ?_;clear hK' K';refine fM (g:=none) 41 rfl rfl fun K' hK'=>?_;simp (maxSteps:=4000000) only[iN,lC,sH,↓sP,sA,tyS,simprocAttr,denilL_int];repeat refine AI ?_
 refine eE (by first|rfl|simp) ?_;try simp (maxSteps:=4000000) only[sH,↓sP,sA,tyS,simprocAttr,denilL_int]
 repeat refine AI ?_
 refine hK' _ _ ?_;clear hK' K';refine cB (g:=none) rfl rfl fun K' hK'=>?_;simp (maxSteps:=4000000) only[sH,↓sP,sA,tyS,simprocAttr,denilL_int];repeat refine AI ?_
 refine hK' _ _ ?_;clear hK' K';simp only[sE,↓reduceIte,simprocAttr];repeat refine AI ?_
 refine hK _ _ _ ?_;clear hK K;refine bE ?_;obtain⟨xs,hxs⟩: ∃xs:List Rp,xs=[r,p]:=⟨_,rfl⟩;have hx2:xs.length=2:=by rw[hxs];rfl
 refine cA (α:={i:Nat//i≤2}) (fun i=>(fin [(1,.c (.slc (b.map u8))),(29,.c (.slc (xs.map Rp.cv))),(30,.c (.int .i64 2)),(31,.c (.int .i64 i.1))],fob [(0,.tab tabs)])) 200 (fun i=>2-i.1) ⟨0,by omega⟩ (aS (by omega) (by simp[bK,fin_at,finA_at,upd_at,HV.men,HV.menL,HV.norm,HV.toC,HV.toCL,hxs]) (by simp[bM,fob_at,upd_at,none0_at,bY,HO.men,HV.men,HV.menL,HV.norm,HV.toC,HV.toCL,hxs])) ?_;rintro⟨i,hi⟩;refine aD fun K hK=>aC (by kernel_rfl) ?_;simp (maxSteps:=4000000) only[↓sP,sA,tyS,simprocAttr];repeat refine AI ?_
 refine hK _ _ _ ?_;clear hK K;refine aD fun K hK=>?_;refine aQ (b:=decide ((i:Int)<2)) rfl (fun hb=>?_) (fun hb=>?_)
 ·
  have hlt:i<2:=by have:=of_decide_eq_true hb;omega
  have hlx:i<xs.length:=by omega
  clear hb;refine aV ?_;simp (maxSteps:=4000000) only[↓sP,sA,tyS,simprocAttr];repeat refine AI ?_
  refine hK _ _ _ ?_;clear hK K;refine aD fun K hK=>?_;refine bE ?_;refine aD fun K hK=>aC (by kernel_rfl) ?_;simp only[sR,simprocAttr];iterate 4
   (refine aB (g:=none) rfl rfl fun K' hK'=>?_;simp only[sH,↓sP,sA,tyS,simprocAttr,Int.natCast_nonneg,Int.ofNat_lt,hlx,bN hlx];(repeat refine AI ?_);refine hK' _ _ ?_;clear hK' K')
  simp only[sE,↓reduceIte,simprocAttr];repeat refine AI ?_
  refine hK _ _ _ ?_;clear hK K;obtain⟨x,hx⟩: ∃x,x=xs[i]:=⟨_,rfl⟩;rw[←hx];refine aD fun K hK=>aC (by kernel_rfl) ?_;simp only[sR,simprocAttr];refine aB (g:=none) rfl rfl fun K' hK'=>?_;simp (maxSteps:=4000000) only[sH,↓sP,sA,tyS,simprocAttr];repeat refine AI ?_
  refine hK' _ _ ?_;clear hK' K';refine aB (g:=none) rfl rfl fun K' hK'=>?_;simp (maxSteps:=4000000) only[sH,↓sP,sA,tyS,simprocAttr];refine xR (args:=[_]) 0 (aN7 x) rfl (by simp) ⟨rfl,rfl,rfl,rfl⟩ ?_;rintro u v ⟨rfl,rfl⟩;repeat refine AI ?_
  refine hK' _ _ ?_;clear hK' K';iterate 5
   (refine aB (g:=none) rfl rfl fun K' hK'=>?_;simp only[sH,↓sP,sA,tyS,simprocAttr];(repeat refine AI ?_);refine hK' _ _ ?_;clear hK' K')
  simp only[sE,↓reduceIte,simprocAttr];repeat refine AI ?_
  refine hK _ _ _ ?_;clear hK K;refine aD fun K hK=>aC (by kernel_rfl) ?_;simp only[sR,simprocAttr];refine aB (g:=none) rfl rfl fun K' hK'=>?_;simp (maxSteps:=4000000) only[sH,↓sP,sA,tyS,simprocAttr];repeat refine AI ?_
  refine hK' _ _ ?_;clear hK' K';refine aB (g:=none) rfl rfl fun K' hK'=>?_;simp (maxSteps:=4000000) only[sH,↓sP,sA,tyS,simprocAttr];refine cD (args:=[_]) (aC5 x) ⟨rfl,rfl,rfl,rfl⟩ ?_;rintro u v ⟨rfl,rfl⟩;repeat refine AI ?_
  refine hK' _ _ ?_;clear hK' K';iterate 5
   (refine aB (g:=none) rfl rfl fun K' hK'=>?_;simp only[sH,↓sP,sA,tyS,simprocAttr];(repeat refine AI ?_);refine hK' _ _ ?_;clear hK' K')
  simp only[sE,↓reduceIte,simprocAttr];repeat refine AI ?_
  refine hK _ _ _ ?_;clear hK K;refine aD fun K hK=>?_;refine aD fun K hK=>eL mixed [(0,[],[]),(2,[],[]),(1,[],[2]),(3,[],[]),(4,[],[]),(5,[],[]),(6,[],[]),(7,[],[]),(8,[],[]),(9,[],[]),(10,[],[]),(11,[],[]),(12,[],[]),(13,[],[]),(14,[],[]),(15,[],[]),(16,[],[])] [0,1,0,7,15,31,63,63,255,511,1023,2047,4095,2047,10239,32767,65535] (by kernel_rfl) (by kernel_rfl) (by kernel_rfl) (by kernel_rfl) rfl (by kernel_rfl) ?_;iterate 2
   (refine bR (g:=none) rfl rfl fun K' hK'=>?_;simp only[sH,↓sP,sA,tyS,simprocAttr];(repeat refine AI ?_);refine hK' _ _ ?_;clear hK' K')
  refine bR (g:=none) rfl rfl fun K' hK'=>?_;simp (maxSteps:=4000000) only[sH,↓sP,sA,tyS,simprocAttr];refine bH (args:=[_]) (oU x) ⟨rfl,rfl,rfl,rfl⟩ ?_;rintro u rfl;repeat refine AI ?_
  refine hK' _ _ ?_;clear hK' K';refine bR (g:=none) rfl rfl fun K' hK'=>?_;simp (maxSteps:=4000000) only[sH,↓sP,sA,tyS,simprocAttr];refine bH (args:=[_]) (mB x) ⟨rfl,rfl,rfl,rfl⟩ ?_;rintro u rfl;repeat refine AI ?_
  refine hK' _ _ ?_;clear hK' K';iterate 2
   (refine bR (g:=none) rfl rfl fun K' hK'=>?_;simp only[sH,↓sP,sA,tyS,simprocAttr];(repeat refine AI ?_);refine hK' _ _ ?_;clear hK' K')
  iterate 3
   (refine bR (g:=some (50,false)) rfl rfl fun K' hK'=>?_;simp only[sH,↓sP,sA,tyS,simprocAttr];(repeat refine AI ?_);refine hK' _ _ ?_;clear hK' K')
  iterate 2
   (refine bR (g:=none) rfl rfl fun K' hK'=>?_;simp only[sH,↓sP,sA,tyS,simprocAttr];(repeat refine AI ?_);refine hK' _ _ ?_;clear hK' K')
  iterate 5
   (refine bR (g:=some (55,false)) rfl rfl fun K' hK'=>?_;simp only[sH,↓sP,sA,tyS,simprocAttr];(repeat refine AI ?_);refine hK' _ _ ?_;clear hK' K')
  refine bR (g:=none) rfl rfl fun K' hK'=>?_;simp (maxSteps:=4000000) only[sH,↓sP,sA,tyS,simprocAttr];repeat refine AI ?_
  refine hK' _ _ ?_;clear hK' K';simp only[sE,↓reduceIte,simprocAttr];repeat refine AI ?_
  refine hK _ _ _ ?_;clear hK K;refine aQ (b:=false) rfl (fun hb=>?_) (fun hb=>?_)
  · cases hb
  refine aV ?_;simp (maxSteps:=4000000) only[↓sP,sA,tyS,simprocAttr];repeat refine AI ?_
  refine hK _ _ _ ?_;clear hK K;refine aD fun K hK=>?_;have hp1:=bE7 x;obtain⟨w,hw⟩: ∃w,w=rpO x:=⟨_,rfl⟩;rw[←hw]at hp1⊢;refine aD fun K hK=>fJ (by kernel_rfl) ?_;simp only[sR,simprocAttr];iterate 2
   (refine cW (g:=none) rfl rfl fun K' hK'=>?_;simp only[sH,↓sP,sA,tyS,simprocAttr];(repeat refine AI ?_);refine hK' _ _ ?_;clear hK' K')
  refine fP (g:=none) 352 rfl rfl fun K' hK'=>?_;simp (maxSteps:=4000000) only[iN,lC,sH,↓sP,sA,tyS,simprocAttr];repeat refine AI ?_
  refine eE (by first|rfl|simp) ?_;try simp (maxSteps:=4000000) only[sH,↓sP,sA,tyS,simprocAttr]
  repeat refine AI ?_
  refine hK' _ _ ?_;clear hK' K';iterate 2
   (refine cW (g:=none) rfl rfl fun K' hK'=>?_;simp only[sH,↓sP,sA,tyS,simprocAttr];(repeat refine AI ?_);refine hK' _ _ ?_;clear hK' K')
  simp only[sE,↓reduceIte,simprocAttr];repeat refine AI ?_
  refine hK _ _ _ ?_;clear hK K;refine bE ?_;obtain⟨ws,hws⟩: ∃ws:List aU,ws=[b,w]:=⟨_,rfl⟩;have hw2:ws.length=2:=by rw[hws];rfl
  refine cA (α:={j:Nat//j≤2}) (fun j=>(fin [(1,.c (.slc (b.map u8))),(8,.ptr 212 0),(9,.c (.slc (w.map cQ))),(10,.c (.int .i64 (rpE x))),(29,.c (.slc (xs.map Rp.cv))),(30,.c (.int .i64 2)),(31,.c (.int .i64 i)),(64,.c (.slc (ws.map bsl))),(65,.c (.int .i64 2)),(66,.c (.int .i64 j.1))],fob [(0,.tab tabs),(212,.box 27 (.c x.cv))])) 600 (fun j=>2-j.1) ⟨0,by omega⟩ (aS (by omega) (by simp[bK,fin_at,finA_at,upd_at,HV.men,HV.menL,HV.norm,HV.toC,HV.toCL,hws,bsl,nO,denilL_u8]) (by simp[bM,fob_at,upd_at,none0_at,bY,HO.men,HV.men,HV.menL,HV.norm,HV.toC,HV.toCL,hws,bsl,nO,denilL_u8])) ?_;rintro⟨j,hj⟩;refine aD fun K hK=>aC (by kernel_rfl) ?_;simp (maxSteps:=4000000) only[↓sP,sA,tyS,simprocAttr];repeat refine AI ?_
  refine hK _ _ _ ?_;clear hK K;refine aD fun K hK=>?_;refine aQ (b:=decide ((j:Int)<2)) rfl (fun hb=>?_) (fun hb=>?_)
  ·
   have hlt2:j<2:=by have:=of_decide_eq_true hb;omega
   have hlw:j<ws.length:=by omega
   clear hb;refine aV ?_;simp (maxSteps:=4000000) only[↓sP,sA,tyS,simprocAttr];repeat refine AI ?_
   refine hK _ _ _ ?_;clear hK K;refine aD fun K hK=>?_;refine bE ?_;refine aD fun K hK=>aC (by kernel_rfl) ?_;simp (maxSteps:=4000000) only[↓sP,sA,tyS,simprocAttr,Int.natCast_nonneg,Int.ofNat_lt,hlw,bN hlw,bsl];repeat refine AI ?_
   refine hK _ _ _ ?_;clear hK K;have hq:ws[j].length<2^40:=by
    have:ws[j]∈[b,w]:=by rw[←hws];exact List.getElem_mem hlw
    rcases List.mem_cons.1 this with h|h
    · rw[h];omega
    rw[List.mem_singleton.1 h];omega
   obtain⟨q,hqq⟩: ∃q,q=ws[j]:=⟨_,rfl⟩;rw[←hqq]at hq⊢;refine aD fun K hK=>aC (by kernel_rfl) ?_;simp only[sR,simprocAttr];refine aB (g:=none) rfl rfl fun K' hK'=>?_;simp (maxSteps:=4000000) only[sH,↓sP,sA,tyS,simprocAttr,denilL_u8];repeat refine AI ?_
   refine hK' _ _ ?_;clear hK' K';refine aB (g:=none) rfl rfl fun K' hK'=>?_;simp (maxSteps:=4000000) only[sH,↓sP,sA,tyS,simprocAttr,denilL_u8];refine cD (args:=[_]) (uS q hq) ⟨rfl,rfl,rfl,rfl⟩ ?_;rintro u v ⟨rfl,rfl⟩;repeat refine AI ?_
   refine hK' _ _ ?_;clear hK' K';iterate 6
    (refine aB (g:=none) rfl rfl fun K' hK'=>?_;simp only[sH,↓sP,sA,tyS,simprocAttr,denilL_u8];(repeat refine AI ?_);refine hK' _ _ ?_;clear hK' K')
   simp only[sE,↓reduceIte,simprocAttr];repeat refine AI ?_
   refine hK _ _ _ ?_;clear hK K;refine aD fun K hK=>aC (by kernel_rfl) ?_;simp only[sR,simprocAttr];refine aB (g:=none) rfl rfl fun K' hK'=>?_;simp (maxSteps:=4000000) only[sH,↓sP,sA,tyS,simprocAttr,denilL_u8];repeat refine AI ?_
   refine hK' _ _ ?_;clear hK' K';refine aB (g:=none) rfl rfl fun K' hK'=>?_;simp (maxSteps:=4000000) only[sH,↓sP,sA,tyS,simprocAttr,denilL_u8];refine cD (args:=[_]) (aC6 q hq) ⟨rfl,rfl,rfl,rfl⟩ ?_;rintro u v ⟨rfl,rfl⟩;repeat refine AI ?_
   refine hK' _ _ ?_;clear hK' K';iterate 6
    (refine aB (g:=none) rfl rfl fun K' hK'=>?_;simp only[sH,↓sP,sA,tyS,simprocAttr,denilL_u8];(repeat refine AI ?_);refine hK' _ _ ?_;clear hK' K')
   simp only[sE,↓reduceIte,simprocAttr];repeat refine AI ?_
   refine hK _ _ _ ?_;clear hK K;refine aD fun K hK=>aC (by kernel_rfl) ?_;simp only[sR,simprocAttr];iterate 4
    (refine aB (g:=none) rfl rfl fun K' hK'=>?_;simp only[sH,↓sP,sA,tyS,simprocAttr,yY];(repeat refine AI ?_);refine hK' _ _ ?_;clear hK' K')
   iterate 3
    (refine aB (g:=some (83,false)) rfl rfl fun K' hK'=>?_;simp only[sH,↓sP,sA,tyS,simprocAttr,yY];(repeat refine AI ?_);refine hK' _ _ ?_;clear hK' K')
   refine aB (g:=none) rfl rfl fun K' hK'=>?_;simp (maxSteps:=4000000) only[sH,↓sP,sA,tyS,simprocAttr,yY];repeat refine AI ?_
   refine hK' _ _ ?_;clear hK' K';simp only[sE,↓reduceIte,simprocAttr];repeat refine AI ?_
   refine hK _ _ _ ?_;clear hK K;refine aQ (b:=false) rfl (fun hb=>?_) (fun hb=>?_)
   · cases hb
   refine aV ?_;simp (maxSteps:=4000000) only[↓sP,sA,tyS,simprocAttr];repeat refine AI ?_
   refine hK _ _ _ ?_;clear hK K;refine aC (by kernel_rfl) ?_;simp (maxSteps:=4000000) only[↓sP,sA,tyS,simprocAttr,IntWalk.i64_in _ (show-9223372036854775808≤(j:Int)+1∧(j:Int)+1≤9223372036854775807 by omega)];refine⟨⟨j+1,by omega⟩,aS (by omega) (by simp[bK,fin_at,finA_at,upd_at,HV.men,HV.menL,HV.norm,HV.toC,HV.toCL]) (by simp[bM,fob_at,upd_at,none0_at,bY,HO.men,HV.men,HV.menL,HV.norm,HV.toC,HV.toCL]),?_⟩;show 2-(j+1)<2-j;omega
  refine bW ?_;simp (maxSteps:=4000000) only[↓sP,sA,tyS,simprocAttr];clear hK K;repeat refine AI ?_
  refine hK _ _ _ ?_;clear hK K;refine aD fun K hK=>aC (by kernel_rfl) ?_;simp only[sR,simprocAttr];refine aB (g:=none) rfl rfl fun K' hK'=>?_;simp (maxSteps:=4000000) only[sH,↓sP,sA,tyS,simprocAttr,denilL_u8,nO];repeat refine AI ?_
  refine hK' _ _ ?_;clear hK' K';refine aB (g:=none) rfl rfl fun K' hK'=>?_;simp (maxSteps:=4000000) only[sH,↓sP,sA,tyS,simprocAttr,denilL_u8,nO];refine cD (args:=[_]) (uS w (by omega)) ⟨rfl,rfl,rfl,rfl⟩ ?_;rintro u v ⟨rfl,rfl⟩;repeat refine AI ?_
  refine hK' _ _ ?_;clear hK' K';iterate 6
   (refine aB (g:=none) rfl rfl fun K' hK'=>?_;simp only[sH,↓sP,sA,tyS,simprocAttr,denilL_u8,nO];(repeat refine AI ?_);refine hK' _ _ ?_;clear hK' K')
  simp only[sE,↓reduceIte,simprocAttr];repeat refine AI ?_
  refine hK _ _ _ ?_;clear hK K;by_cases hz:rpE x=0
  ·
   obtain⟨z1,z2⟩:=aV5 hz;rw[←hw]at z1 z2;rw[hz,z1,z2];refine aD fun K hK=>aC (by kernel_rfl) ?_;simp only[sR,simprocAttr];iterate 3
    (refine aB (g:=none) rfl rfl fun K' hK'=>?_;simp only[sH,↓sP,sA,tyS,simprocAttr,yY];(repeat refine AI ?_);refine hK' _ _ ?_;clear hK' K')
   iterate 3
    (refine aB (g:=some (96,true)) rfl rfl fun K' hK'=>?_;simp only[sH,↓sP,sA,tyS,simprocAttr,yY];(repeat refine AI ?_);refine hK' _ _ ?_;clear hK' K')
   iterate 3
    (refine aB (g:=some (99,false)) rfl rfl fun K' hK'=>?_;simp only[sH,↓sP,sA,tyS,simprocAttr,yY];(repeat refine AI ?_);refine hK' _ _ ?_;clear hK' K')
   refine aB (g:=some (96,true)) rfl rfl fun K' hK'=>?_;simp (maxSteps:=4000000) only[sH,↓sP,sA,tyS,simprocAttr,yY];repeat refine AI ?_
   refine hK' _ _ ?_;clear hK' K';refine aB (g:=none) rfl rfl fun K' hK'=>?_;simp (maxSteps:=4000000) only[sH,↓sP,sA,tyS,simprocAttr,yY];repeat refine AI ?_
   refine hK' _ _ ?_;clear hK' K';simp only[sE,↓reduceIte,simprocAttr];repeat refine AI ?_
   refine hK _ _ _ ?_;clear hK K;refine aQ (b:=false) rfl (fun hb=>?_) (fun hb=>?_)
   · cases hb
   refine aV ?_;simp (maxSteps:=4000000) only[↓sP,sA,tyS,simprocAttr];repeat refine AI ?_
   refine hK _ _ _ ?_;clear hK K;refine aC (by kernel_rfl) ?_;simp (maxSteps:=4000000) only[↓sP,sA,tyS,simprocAttr,IntWalk.i64_in _ (show-9223372036854775808≤(i:Int)+1∧(i:Int)+1≤9223372036854775807 by omega)];refine⟨⟨i+1,by omega⟩,aS (by omega) (by simp[bK,fin_at,finA_at,upd_at,HV.men,HV.menL,HV.norm,HV.toC,HV.toCL]) (by simp[bM,fob_at,upd_at,none0_at,bY,HO.men,HV.men,HV.menL,HV.norm,HV.toC,HV.toCL]),?_⟩;show 2-(i+1)<2-i;omega
  have hz':(rpE x==0)=false:=beq_eq_false_iff_ne.2 hz;refine aD fun K hK=>aC (by kernel_rfl) ?_;simp only[sR,simprocAttr];iterate 3
   (refine aB (g:=none) rfl rfl fun K' hK'=>?_;simp only[sH,↓sP,sA,tyS,simprocAttr,hz'];(repeat refine AI ?_);refine hK' _ _ ?_;clear hK' K')
  iterate 3
   (refine aB (g:=some (96,true)) rfl rfl fun K' hK'=>?_;simp only[sH,↓sP,sA,tyS,simprocAttr,hz'];(repeat refine AI ?_);refine hK' _ _ ?_;clear hK' K')
  iterate 3
   (refine aB (g:=some (99,false)) rfl rfl fun K' hK'=>?_;simp only[sH,↓sP,sA,tyS,simprocAttr,hz'];(repeat refine AI ?_);refine hK' _ _ ?_;clear hK' K')
  refine aB (g:=some (96,true)) rfl rfl fun K' hK'=>?_;simp (maxSteps:=4000000) only[sH,↓sP,sA,tyS,simprocAttr,hz'];repeat refine AI ?_
  refine hK' _ _ ?_;clear hK' K';refine aB (g:=none) rfl rfl fun K' hK'=>?_;simp (maxSteps:=4000000) only[sH,↓sP,sA,tyS,simprocAttr,hz'];repeat refine AI ?_
  refine hK' _ _ ?_;clear hK' K';simp only[sE,↓reduceIte,simprocAttr];repeat refine AI ?_
  refine hK _ _ _ ?_;clear hK K;refine aQ (b:=false) rfl (fun hb=>?_) (fun hb=>?_)
  · cases hb
  refine aV ?_;simp (maxSteps:=4000000) only[↓sP,sA,tyS,simprocAttr];repeat refine AI ?_
  refine hK _ _ _ ?_;clear hK K;refine aC (by kernel_rfl) ?_;simp (maxSteps:=4000000) only[↓sP,sA,tyS,simprocAttr,IntWalk.i64_in _ (show-9223372036854775808≤(i:Int)+1∧(i:Int)+1≤9223372036854775807 by omega)];refine⟨⟨i+1,by omega⟩,aS (by omega) (by simp[bK,fin_at,finA_at,upd_at,HV.men,HV.menL,HV.norm,HV.toC,HV.toCL]) (by simp[bM,fob_at,upd_at,none0_at,bY,HO.men,HV.men,HV.menL,HV.norm,HV.toC,HV.toCL]),?_⟩;show 2-(i+1)<2-i;omega
 refine bW ?_;simp (maxSteps:=4000000) only[↓sP,sA,tyS,simprocAttr];clear hK K;repeat refine AI ?_
 refine hK _ _ _ ?_;clear hK K;refine aD fun K hK=>aC (by kernel_rfl) ?_;simp only[sR,simprocAttr];refine aB (g:=none) rfl rfl fun K' hK'=>?_;simp (maxSteps:=4000000) only[sH,↓sP,sA,tyS,simprocAttr];refine bH (args:=[]) aW5 ⟨rfl,rfl,rfl,rfl⟩ ?_;rintro u rfl;repeat refine AI ?_
 refine hK' _ _ ?_;clear hK' K';refine aB (g:=none) rfl rfl fun K' hK'=>?_;simp (maxSteps:=4000000) only[sH,↓sP,sA,tyS,simprocAttr];repeat refine AI ?_
 refine hK' _ _ ?_;clear hK' K';simp only[sE,↓reduceIte,simprocAttr];repeat refine AI ?_
 refine hK _ _ _ ?_;clear hK K;refine aT ?_;simp (maxSteps:=4000000) only[bA,Tryz.results3,aY,aZ,aX,↓sP,sA,tyS,simprocAttr];exact lU [] (.bool true) rfl rfl (by simp) rfl
set_option maxRecDepth 100000
theorem tC {W:World}(h:laidMetH Tryz.prog Rows.rebuildEncodesRow.laid W):Lib.TabIs Tryz.prog W "internal/strconv.uint64pow10" .u64 Lib.pow10Tab:=by
  rw[MakeChecks.laidMetH_plain _ _ _ (by kernel_rfl)]at h;have h2:=laidMet.filter (fun x=>x.1== "internal/strconv.uint64pow10") h;have e:(Rows.rebuildEncodesRow.laid.filter fun x=>x.1== "internal/strconv.uint64pow10")=[("internal/strconv.uint64pow10",Lib.tabData .u64 Lib.pow10Tab)]:=by kernel_rfl
  rw[e]at h2;exact Lib.tabIs_of_head vV (by kernel_rfl) Tryz.underlying130 Tryz.underlying71 (by kernel_rfl) (by kernel_rfl) h2
theorem iR (H:Type)(enc:TypeId×Value→H)(W:World)(args:Array Value)(ds gs:List (DataW H))(before:List MemPlace)
    (hL:laidMetH Tryz.prog Rows.rebuildEncodesRow.laid W)
    (hval: ∀(j:Nat) t v,Tryz.f3.params[j]? =some t→args[j]? =some v→Value.okWide Tryz.prog W .any 0 t v)
    (hW:DataW.Whole enc Tryz.prog Tryz.f3.params.toList Rows.rebuildEncodesSpec.vars false W args.toList ds gs before):
    Calls Tryz.prog 3 args W fun e W'=> ∃v,e= .returned v∧Rows.rebuildEncodesSpec.post enc Tryz.prog Tryz.f3 false true false false W args v W':=by
  refine aJ9 (mm:=6) (tb:=4) (tabs:=tabs) (by kernel_rfl) bI8 aB0 rfl (by kernel_rfl) Tryz.underlying4 ?_ ?_ ?_ ?_ (fun j t v h1 h2=>?_) hW
  · rw[Tryz.params3]
    intro H ds h
    match ds,h with
    |[c0,c1,c2],_=>exact⟨rfl,rfl,rfl⟩
  · rw[Tryz.params3]
    intro t ht;simp only[List.mem_cons,List.not_mem_nil,or_false]at ht;rcases ht with rfl|rfl|rfl
    · exact⟨by kernel_rfl,of_decide_eq_true (by kernel_rfl)⟩
    · exact⟨by kernel_rfl,of_decide_eq_true (by kernel_rfl)⟩
    · exact⟨by kernel_rfl,of_decide_eq_true (by kernel_rfl)⟩
  · rw[Tryz.params3]
    intro cs hn hty
    match cs,hn,hty with
    |[c0,c1,c2],_,hty=>
      obtain⟨r,rfl⟩:=aK4 (hty 0 _ c0 rfl rfl);obtain⟨b,rfl⟩:=aK3 (hty 1 _ c1 rfl rfl);obtain⟨L,rfl⟩:=aY2 (hty 2 _ c2 rfl rfl);exact yZ r b L
  · intro x hx
    simp only[tabs,List.mem_cons,List.not_mem_nil,or_false]at hx;rcases hx with rfl
    · exact sW vV (tC hL)
  · exact hval j t v h1 h2
open Go.ChangeShapes Go.WideShapes Go.ChangeAt Go.RowKit in
set_option maxRecDepth 100000 in
theorem jK (os:Os)(started:os.Started)(H:Type)(enc:TypeId×Value→H):
    ReturnsInHanded {} Tryz.checked os 3 .any (fun w args=>(Rows.rebuildEncodesSpec.pre enc Tryz.prog Tryz.f3 [] false w args∧laidMetH Tryz.prog Rows.rebuildEncodesRow.laid w)∧sizedMet enc Tryz.prog Tryz.f3 (OpenSpec.ofChange Rows.rebuildEncodesSpec) false w args)
      (Rows.rebuildEncodesSpec.post enc Tryz.prog Tryz.f3 false true false false):=by
  refine returnsInHanded_of_change_and (C:=Tryz.checked) (X:=fun w _=>laidMetH Tryz.prog Rows.rebuildEncodesRow.laid w) (fun _ _ _ hh h=>h.of_heap hh) own started (by kernel_rfl) Tryz.func3
    (ChangeSpec.witness_shaped (enc:=enc) (C:=Tryz.checked) (os:=os) (X:=fun w _=>laidMetH Tryz.prog Rows.rebuildEncodesRow.laid w) false (World.laidAll Tryz.prog os Rows.rebuildEncodesRow.laid) #[.agg #[.int .u8 0,.int .u8 0,.int .u8 0,.int .u8 0,.int .u8 0,.int .u8 0,.int .u8 0,.int .u8 0,.int .u8 0,.int .u8 0,.int .u8 0,.int .u8 0,.int .u8 0,.int .u8 0,.int .u8 0,.int .u8 0,.int .u8 0,.int .u8 0,.int .u8 0,.int .u8 0,.int .u8 0,.int .u8 0,.int .u8 0,.int .u8 0,.int .u8 0,.int .u8 0,.int .u8 0,.int .u8 0,.int .u8 0,.int .u8 0,.int .u8 0,.int .u8 0,.int .u8 0,.int .u8 0,.int .u8 0,.int .u8 0,.int .u8 0,.int .u8 0,.int .u8 0,.int .u8 0,.int .u8 0,.int .u8 0,.int .u8 0,.int .u8 0,.int .u8 0,.int .u8 0,.int .u8 0,.int .u8 0,.int .u8 0,.int .u8 0,.int .u8 0,.int .u8 0,.int .u8 0,.int .u8 0,.int .u8 0,.int .u8 0,.int .u8 0,.int .u8 0,.int .u8 0,.int .u8 0,.int .u8 0,.int .u8 0,.int .u8 0,.int .u8 0,.int .u8 0,.int .u8 0,.int .u8 0,.int .u8 0,.int .u8 0,.int .u8 0,.int .u8 0,.int .u8 0,.int .u8 0,.int .u8 0,.int .u8 0,.int .u8 0,.int .u8 0,.int .u8 0,.int .u8 0,.int .u8 0,.int .u8 0,.int .u8 0,.int .u8 0,.int .u8 0,.int .u8 0,.int .u8 0,.int .u8 0,.int .u8 0,.int .u8 0,.int .u8 0,.int .u8 0,.int .u8 0,.int .u8 0,.int .u8 0,.int .u8 0,.int .u8 0,.int .i64 0],.slice none 0 0,.slice none 0 0] 8 (World.laidAll_os _ _ _)
      (World.shaped_of_ZipB (by kernel_rfl) (by kernel_rfl)) (by kernel_rfl) (by kernel_rfl) (by kernel_rfl)
      (by rw[MakeChecks.laidMetH_plain _ _ _ (by kernel_rfl)];exact laidMet_laidAll _ (by kernel_rfl) (by kernel_rfl))) ?_
  intro W base args ds gs before hval hW _ _ hL _;exact iR H enc W args ds gs before hL (fun j t v h1 h2=>(hval j t v h1 h2)) hW
theorem mC :Rows.RebuildEncodesSaid:=
  OpenClaim.holds_of_wide 3 Tryz.f3 rfl rfl rfl rfl rfl rfl rfl ⟨rfl,rfl,rfl,rfl,rfl⟩ rfl rfl rfl rfl rfl (by kernel_rfl) Tryz.func3 (by kernel_rfl)
    (of_decide_eq_true (by kernel_rfl)) (by unfold Func.isWrapper;first|(rw[if_pos (by decide+kernel)];kernel_rfl)|(rw[if_neg (by decide+kernel)];exact⟨rfl,rfl⟩))
    (fun os started H enc _=>jK os started H enc)
theorem rebuildEncodes_said :Rows.RebuildEncodesCardSaid:=
  Claim7.holds_tied_plain_at .later [] [.data,.data,.data,.data,.pinned] true (true,"750d456b48ff5ed687ec8b1fe2c66b5755a4c8a863b8b7152f0021ce26c6af49") false mC (fun _ h=>by cases h) (by kernel_rfl) (fun _ h=>by cases h) rebuildEncodes_row_tie rfl ⟨rfl,rfl⟩ (by kernel_rfl) rfl
    (fun f fn hf hfn=>by
      obtain rfl:f=3:=Option.some.inj ((show Tryz.prog.funcNamed "admission/admissionlaw18.RebuildEncodes" =some 3 by kernel_rfl).symm.trans hf)|>.symm;obtain rfl:fn=Tryz.f3:=(Option.some.inj (Tryz.func3.symm.trans hfn)).symm;exact⟨by kernel_rfl,fun j t ht=>by
        rw[Tryz.params3]at ht;have hm:t∈[27,28,29]:=by simpa using Array.mem_of_getElem? ht
        have hall:([27,28,29].all fun u=>!Tryz.prog.wantsStandIn u)=true:=by kernel_rfl
        exact(show Tryz.prog.wantsStandIn t=false by simpa using List.all_eq_true.1 hall t hm)⟩)
    (by kernel_rfl)
#print axioms rebuildEncodes_said
end Go.Proofs.YtflnfidkociekaaGreatDoor
