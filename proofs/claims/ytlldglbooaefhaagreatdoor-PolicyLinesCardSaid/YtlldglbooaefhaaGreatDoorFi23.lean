/- PolicyLines: for any tape of numbers and any words the law returns true and leaves them as they were: of documents of lines of policies in any order, with any words, Decode answers as the reference's Decode does. The listed tables of the library are tied to the program's text by the card. By an AI agent. -/
import Derived.Test.YtlldglbooaefhaaGreatDoorHzU1
import Derived.Test.YtlldglbooaefhaaGreatDoorHzUk
import Derived.Test.YtlldglbooaefhaaGreatDoorHlTlaw
import Derived.Test.YtlldglbooaefhaaGreatDoorHzUt
import Derived.Test.YtlldglbooaefhaaGreatDoorPl28q
import Derived.Lay
import Derived.SevenTiedAt
import Derived.Test.YtlldglbooaefhaaGreatDoorRows
import Derived.Test.YtlldglbooaefhaaGreatDoorCards
import Derived.Test.YtlldglbooaefhaaGreatDoorTie
set_option linter.unusedSimpArgs false
set_option linter.unusedVariables false
set_option linter.defProp false
namespace Go.Proofs.YtlldglbooaefhaaGreatDoor
open Go Go.Hl Go.Pl
set_option maxRecDepth 10000
set_option maxHeartbeats 16000000
theorem cH0 {ls:List (List aF)}(h:iB ls=0):(mG ls).length≤262144:=by
 rw[mG,if_pos h];unfold iB at h;split at h
 · cases h
 split at h
 · rename_i l hl;have:=List.find?_some hl;simp[okL,h]at this
 split at h
 · cases h
 omega
theorem cM2 :dM=u8:=rfl
theorem cH1 {c:CV}(h:HasTy Tryz.prog 60 c): ∃l:List aF,c= .slc (l.map .str):=by
 obtain⟨l,rfl,hl,hn⟩:=h.of_slc Tryz.underlying60;obtain⟨m,rfl,hm⟩:=oC (f:=CV.str) (Q:=fun _=>True) l (fun x hx=>by obtain⟨s,h,_⟩:=(hl x hx).of_str Tryz.underlying9;exact⟨s,h,trivial⟩);exact⟨m,rfl⟩
def lt14 :List (List aF):=[[[114,117,108,101],[114],[42],[42,42],[53]],[[97,108,108]],[[97,110,121]],[[97,116,108,101,97,115,116],[49]],[[101,110,100]],[[101,110,100]],[[114,101,108,101,97,115,101,100],[49]],[[99,104,97,105,110,101,100],[115,104,111,112]],[[97,112,112,114,111,118,101,100],[50]],[[114,101,98,117,105,108,116],[49],[48]],[[108,105,115,116,101,100],[49]],[[99,108,101,97,110],[55]],[[102,114,101,115,104],[57]],[[115,101,116,116,108,101,100]]]
structure LnI (ls:List (List aF))(n a:Nat):Prop where
 len:ls.length+n≤17
 row: ∀l∈ls,l.length<2^40
 pos:a+5*n≤100
theorem bN1 (L:List Int)(ws:List aF)(hws:ws.length<2^45):mM Tryz.prog 8 tabs [.slc (L.map (.int .i64)),.slc (ws.map .str)] (fun v=>v= .bool true):=by
 refine cI (args:=[.c (.slc (L.map (.int .i64))),.c (.slc (ws.map .str))]) Tryz.func8 rfl (by kernel_rfl) (gB tabs [.slc (L.map (.int .i64)),.slc (ws.map .str)]) (Nat.le_of_ble_eq_true rfl) ?_;unfold fM;refine R0 ?_;refine aB fun K hK=>Rg ?_;have F:=@denilL_int;refine SF ?_;refine HS rfl rfl fun K' hK'=>T6 ?_;refine fP [] (cG8 L 150) rfl trivial (by simp) (by simp) ⟨rfl,rfl,rfl,rfl⟩ (by simp[eU]) (by simp[HV.menL,HV.men]) ?_;rintro r os' ⟨rfl,rfl⟩;rw[bZ7,bM7];obtain⟨M,hM⟩: ∃M,M=L.take 150:=⟨_,rfl⟩;rw[←hM];clear hM;refine AX (hK' _ _ ?_);clear hK' K';refine SF ?_;refine T2 (hK _ _ _ ?_);clear hK K;refine aB fun K hK=>bX (by kernel_rfl) ?_;simp only[sR,simprocAttr];refine SG0 ?_;refine dJ (g:=none) 21 rfl rfl fun K' hK'=>?_;simp only[iJ,lB,sH,↓sP,sA,tyS,simprocAttr];repeat refine AI ?_
 refine dT (by first|rfl|simp) ?_;try simp only[sH,↓sP,sA,tyS,simprocAttr]
 refine AX (hK' _ _ ?_);clear hK' K';refine bZ (g:=none) rfl rfl fun K' hK'=>T5 ?_;refine dG (args:=[_]) (cG7 M 0 [[49],[48],[120],[55,55]] (by omega) (by decide)) rfl (by simp) ⟨rfl,rfl,rfl,rfl⟩ ?_;rintro u v' ⟨c,a1,rfl,hc,rfl,ha1⟩;refine AX (hK' _ _ ?_);clear hK' K';refine dJ (g:=none) 29 rfl rfl fun K' hK'=>?_;simp only[iJ,lB,sH,↓sP,sA,tyS,simprocAttr];repeat refine AI ?_
 refine dT (by first|rfl|simp) ?_;try simp only[sH,↓sP,sA,tyS,simprocAttr]
 refine AX (hK' _ _ ?_);clear hK' K';iterate 2 refine SG0 ?_
 refine T2 (hK _ _ _ ?_);clear hK K;refine aB fun K hK=>?_;refine aB fun K hK=>Rg ?_;refine S0 ?_;refine HS rfl rfl fun K' hK'=>T5 ?_;refine dG (args:=[_]) (mT M a1 16 (by omega) (by omega)) rfl (by simp) ⟨rfl,rfl,rfl,rfl⟩ ?_;rintro u v' ⟨x,a2,rfl,rfl,h1,h2,h3,h4⟩;refine AX (hK' _ _ ?_);clear hK' K';refine S0 ?_;refine T2 (hK _ _ _ ?_);clear hK K;refine aN ?_;have hx:=h4 (by omega);obtain⟨n,rfl⟩: ∃n:Nat,x=n:=⟨x.toNat,by omega⟩;clear h2 h3 h4;refine bS (α:={y:List (List aF)×Nat×Nat//LnI y.1 y.2.1 y.2.2}) (fun y=>(fin [(1,.c (.slc (ws.map .str))),(5,.ptr 9 0),(6,.own 33 y.1.1.length),(7,.c (.int .i64 y.1.2.1))],fob [(0,.tab tabs),(9,.box 83 (.c (tp M y.1.2.2))),(33,.row 60 1 (y.1.1.map lsC))])) 20000 (fun y=>y.1.2.1) ⟨([[[112,111,108,105,99,121],[112],c]],n,a2),⟨by simp;omega,by simp,by simp only;omega⟩⟩ (aL (by omega) (by simp[aY,fin_at,finA_at,upd_at,HV.men,HV.menL,HV.norm,HV.toC,HV.toCL,lsC]) (by simp[aZ,fob_at,upd_at,none0_at,bV,HO.men,HV.men,HV.menL,HV.norm,HV.toC,HV.toCL,lsC])) ?_;clear hx h1 ha1 hc;rintro⟨⟨ls,n,a⟩,hI⟩;have hI1:=hI.len;have hI2:=hI.row;have hI3:=hI.pos;simp only at hI1 hI2 hI3;refine aB fun K hK=>?_;refine R0 ?_;refine aG (b:=decide ((0:Int)<n)) rfl (fun hb=>?_) (fun hb=>?_)
 ·
  have hn0:0<n:=by simp at hb;omega
  clear hb;refine aJ ?_;refine T0 (hK _ _ _ ?_);clear hK K;refine aB fun K hK=>?_;refine aN ?_;refine aB fun K hK=>?_;have key: ∀(A:Nat) (w:List aF) (a3:Nat) fr ob nx,1≤A→A<nx→nx≤30000→(1≤w.length∧w.length≤5)→a3≤a+1→Fits 1 (mvF A 30000 fr) (mvO A 30000 ob) (fin [(1,.c (.slc (ws.map .str))),(5,.ptr 9 0),(6,.own 33 ls.length),(7,.c (.int .i64 n)),(8,.own 30000 w.length)]) (fob [(0,.tab tabs),(9,.box 83 (.c (tp M a3))),(33,.row 60 1 (ls.map lsC)),(30000,.row 9 1 (w.map .str))]) 30001→K fr ob nx:=by
   rintro A w a3 fr ob nx hA1 hA hnx hw ha3 hf;refine hK _ _ _ (cP9 A 30000 hA1 hA hnx (bH hf ?_));clear hf hK K hA hnx hA1;refine aB fun K hK=>?_;have key: ∀(w':List aF) (a5:Nat) fr ob nx,(1≤w'.length∧w'.length≤5)→a5≤a+4→Fits 1 fr ob (fin [(1,.c (.slc (ws.map .str))),(5,.ptr 9 0),(6,.own 33 ls.length),(7,.c (.int .i64 n)),(8,.own 30000 w'.length)]) (fob [(0,.tab tabs),(9,.box 83 (.c (tp M a5))),(33,.row 60 1 (ls.map lsC)),(30000,.row 9 1 (w'.map .str))]) 50000→K fr ob nx:=by
    rintro w' a5 fr ob nx hw' ha5 hf;refine hK _ _ _ (bH hf ?_);clear hf hK K;refine aB fun K hK=>?_;have key: ∀(w2:List aF) (a7:Nat) fr ob nx,w2.length<2^40→a7≤a+5→Fits 1 fr ob (fin [(1,.c (.slc (ws.map .str))),(5,.ptr 9 0),(6,.own 33 ls.length),(7,.c (.int .i64 n)),(8,.own 30000 w2.length)]) (fob [(0,.tab tabs),(9,.box 83 (.c (tp M a7))),(33,.row 60 1 (ls.map lsC)),(30000,.row 9 1 (w2.map .str))]) 60000→K fr ob nx:=by
     rintro w2 a7 fr ob nx hw2 ha7 hf;refine hK _ _ _ (bH hf (dF [30000] (bH (fr2:=fin [(1,.c (.slc (ws.map .str))),(5,.ptr 9 0),(6,.own 33 ls.length),(7,.c (.int .i64 n)),(8,.c (lsC w2))]) (ob2:=fob [(0,.tab tabs),(9,.box 83 (.c (tp M a7))),(33,.row 60 1 (ls.map lsC))]) (nx2:=61000) (aL (by omega) (by simp[aY,fin_at,finA_at,upd_at,HV.men,HV.menL,HV.norm,HV.toC,HV.toCL,eB,eC,HO.close,HV.close,HV.closeL,CV.denil,CV.denilL,denilL_str,denilL_int,tp,lsC,fob_at,List.length_map]) (by simp[aZ,fob_at,upd_at,none0_at,bV,HO.men,HV.men,HV.menL,HV.norm,HV.toC,HV.toCL,eB,eC,HO.close,HV.close,HV.closeL,CV.denil,CV.denilL,denilL_str,denilL_int,tp,lsC,fob_at,List.length_map])) ?_)));clear hf hK K;refine Rg ?_;have F:=aI @eS (aI @jT @List.length_map.{0,0});iterate 5 refine SF ?_
     refine T2 (hK _ _ _ ?_);clear hK K;refine aK (by kernel_rfl) ?_;refine TQ (show IntKind.i64.wrap ((n:Int)-1)=((n-1:Nat):Int)from by rw[IntWalk.i64_in _ (by omega)];omega) ?_;refine⟨⟨(ls++[w2],n-1,a7),⟨by simp;omega,fun l hl=>by rcases List.mem_append.1 hl with h|h;exact hI2 l h;rw[List.mem_singleton.1 h];exact hw2,by simp only;omega⟩⟩,aL (by omega) (by simp[aY,fin_at,finA_at,upd_at,HV.men,HV.menL,HV.norm,HV.toC,HV.toCL,List.map_append,List.length_append]) (by simp[aZ,fob_at,upd_at,none0_at,bV,HO.men,HV.men,HV.menL,HV.norm,HV.toC,HV.toCL,List.map_append,List.length_append]),?_⟩;show n-1<n;omega
    refine aB fun K hK=>Rg ?_;refine S0 ?_;refine HS rfl rfl fun K' hK'=>T5 ?_;refine dG (args:=[_]) (mT M a5 16 (by omega) (by omega)) rfl (by simp) ⟨rfl,rfl,rfl,rfl⟩ ?_;rintro u v' ⟨x7,a7,rfl,rfl,h7,-,-,-⟩;refine AX (hK' _ _ ?_);clear hK' K';refine S0 ?_;refine T2 (hK _ _ _ ?_);clear hK K;refine aG (b:=_) rfl (fun hb=>?_) (fun hb=>?_)
    ·
     refine Rg ?_;have F:=@List.length_map.{0,0};iterate 4 refine SF ?_
     refine T4 ?_;exact key (w'++[[49]]) a7 _ _ _ (by simp;omega) (by omega) (aL (by omega) (by simp[aY,fin_at,finA_at,upd_at,HV.men,HV.menL,HV.norm,HV.toC,HV.toCL,List.map_append,List.length_append]) (by simp[aZ,fob_at,upd_at,none0_at,bV,HO.men,HV.men,HV.menL,HV.norm,HV.toC,HV.toCL,List.map_append,List.length_append]))
    refine aJ (T3 ?_);exact key w' a7 _ _ _ (by omega) (by omega) (fF)
   refine aB fun K hK=>?_;have key: ∀(b:Bool) (a4:Nat) fr ob nx,(b=true→0<ws.length)→a4≤a+2→Fits 1 fr ob (fin [(1,.c (.slc (ws.map .str))),(5,.ptr 9 0),(6,.own 33 ls.length),(7,.c (.int .i64 n)),(8,.own 30000 w.length),(56,.c (.bool b))]) (fob [(0,.tab tabs),(9,.box 83 (.c (tp M a4))),(33,.row 60 1 (ls.map lsC)),(30000,.row 9 1 (w.map .str))]) 40000→K fr ob nx:=by
    rintro b a4 fr ob nx hb4 ha4 hf;refine hK _ _ _ (bH hf ?_);clear hf hK K;refine aG (b:=b) rfl (fun hb=>?_) (fun hb=>?_)
    ·
     have hw0:=hb4 hb;refine Rg ?_;have F:=@List.length_map.{0,0};iterate 4 refine SF ?_
     refine HS rfl rfl fun K' hK'=>T6 ?_;refine dG (args:=[_]) (mT M a4 w.length (by omega) (by omega)) rfl (by simp) ⟨rfl,rfl,rfl,rfl⟩ ?_;rintro u v' ⟨x5,a5,rfl,rfl,h5,g1,-,g2⟩;obtain⟨i,rfl⟩: ∃i:Nat,x5=i:=⟨x5.toNat,by omega⟩;have hi:i<w.length:=by have:=g2 (by omega);omega
     refine AX (hK' _ _ ?_);clear hK' K';have F:=aI @List.length_map.{0,0} (aI @Int.natCast_nonneg (aI @Int.ofNat_lt (aI @Int.toNat_natCast hi)));iterate 4 refine SF ?_
     refine HS rfl rfl fun K' hK'=>T6 ?_;refine dG (args:=[_]) (mT M a5 ws.length (by omega) (by omega)) rfl (by simp) ⟨rfl,rfl,rfl,rfl⟩ ?_;rintro u v' ⟨x6,a6,rfl,rfl,h6,g3,-,g4⟩;obtain⟨k,rfl⟩: ∃k:Nat,x6=k:=⟨x6.toNat,by omega⟩;have hk:k<ws.length:=by have:=g4 (by omega);omega
     refine AX (hK' _ _ ?_);clear hK' K';have F:=aI @List.length_map.{0,0} (aI @Int.natCast_nonneg (aI @Int.ofNat_lt (aI @Int.toNat_natCast (aI hi (aI hk (aI (nM hk) (nM hi)))))));iterate 4 refine SF ?_
     refine T4 ?_;exact key (w.set i ws[k]) a6 _ _ _ (by simpa using hw) (by omega) (aL (by omega) (by simp[aY,fin_at,finA_at,upd_at,HV.men,HV.menL,HV.norm,HV.toC,HV.toCL,List.map_set,List.length_set]) (by simp[aZ,fob_at,upd_at,none0_at,bV,HO.men,HV.men,HV.menL,HV.norm,HV.toC,HV.toCL,List.map_set,List.length_set]))
    refine aJ (T3 ?_);exact key w a4 _ _ _ hw (by omega) (fF)
   refine Rg ?_;have F:=@List.length_map.{0,0};refine SF ?_;refine HS rfl rfl fun K' hK'=>T6 ?_;refine dG (args:=[_]) (mT M a3 8 (by omega) (by omega)) rfl (by simp) ⟨rfl,rfl,rfl,rfl⟩ ?_;rintro u v' ⟨x4,a4,rfl,rfl,h1,-,-,-⟩;refine AX (hK' _ _ ?_);clear hK' K';iterate 2 refine SF ?_
   refine aD 51 rfl (fun h7_51=>?_) (fun h7_51=>?_)
   ·
    have F:=aI @List.length_map.{0,0} h7_51;iterate 4 refine SF ?_
    refine aD 55 rfl (fun h7_55=>?_) (fun h7_55=>?_)
    · simp only[h7_55];refine T4 ?_;exact key true a4 _ _ _ (by simp_all) (by omega) (fF)
    simp only[h7_55];refine T4 ?_;exact key false a4 _ _ _ (by simp_all) (by omega) (fF)
   have F:=aI @List.length_map.{0,0} h7_51;iterate 4 refine SF ?_
   refine T4 ?_;exact key false a4 _ _ _ (by simp_all) (by omega) (fF)
  refine bX (by kernel_rfl) ?_;simp only[sR,simprocAttr];iterate 14 refine SG0 ?_
  refine cE (g:=none) rfl rfl fun K' hK'=>?_;simp only[sN,↓hopH.eq_def,sH,↓sP,sA,tyS,simprocAttr];refine AX (hK' _ _ ?_);clear hK' K';refine SG0 ?_;refine bZ (g:=none) rfl rfl fun K' hK'=>T5 ?_;refine dG (args:=[_]) (mT M a 14 (by omega) (by omega)) rfl (by simp) ⟨rfl,rfl,rfl,rfl⟩ ?_;rintro u v' ⟨x,a3,rfl,rfl,h1,h2,h3,h4⟩;have hx:=h4 (by omega);obtain⟨j,rfl⟩: ∃j:Nat,x=j:=⟨x.toNat,by omega⟩;have hj:j<14:=by omega
  have hn:kZ [HV.own 20008 5,HV.own 20012 1,HV.own 20016 1,HV.own 20020 2,HV.own 20024 1,HV.own 20028 1,HV.own 20032 2,HV.own 20036 2,HV.own 20040 2,HV.own 20044 3,HV.own 20048 2,HV.own 20052 2,HV.own 20056 2,HV.own 20060 1] j= .own (20008+4*j) (lt14.getD j []).length:=by rcases(by omega:j=0∨j=1∨j=2∨j=3∨j=4∨j=5∨j=6∨j=7∨j=8∨j=9∨j=10∨j=11∨j=12∨j=13)with rfl|rfl|rfl|rfl|rfl|rfl|rfl|rfl|rfl|rfl|rfl|rfl|rfl|rfl<;>rfl
  clear h2 h3 h4 hx;refine AX (hK' _ _ ?_);clear hK' K';refine cE (g:=none) rfl rfl fun K' hK'=>?_;simp only[sN,↓hopH.eq_def,sH,↓sP,sA,tyS,simprocAttr,List.length_cons,List.length_nil,Int.natCast_nonneg,Int.ofNat_lt,hj,Int.toNat_natCast,hn];refine AX (hK' _ _ ?_);clear hK' K';refine cE (g:=none) rfl rfl fun K' hK'=>?_;simp only[sN,↓hopH.eq_def,sH,↓sP,sA,tyS,simprocAttr,List.length_cons,List.length_nil,Int.natCast_nonneg,Int.ofNat_lt,hj,Int.toNat_natCast,hn];refine AX (hK' _ _ ?_);clear hK' K';refine SG0 ?_ (e:=fun _ h_=>by simp only[sH,↓sP,sA,tyS,simprocAttr,List.length_cons,List.length_nil,Int.natCast_nonneg,Int.ofNat_lt,hj,Int.toNat_natCast,hn];exact AX h_);refine T4 ?_;obtain⟨J,hJ⟩: ∃J,J=j:=⟨_,rfl⟩;rcases(by omega:j=0∨j=1∨j=2∨j=3∨j=4∨j=5∨j=6∨j=7∨j=8∨j=9∨j=10∨j=11∨j=12∨j=13)with rfl|rfl|rfl|rfl|rfl|rfl|rfl|rfl|rfl|rfl|rfl|rfl|rfl|rfl<;>exact key (20008+4*J) (lt14.getD J []) a3 _ _ _ (by omega) (by omega) (by omega) (by rw[hJ];decide) h1 (aL (by omega) (by simp[aY,fin_at,finA_at,upd_at,HV.men,HV.menL,HV.norm,HV.toC,HV.toCL,hJ,lt14,mvF,mvO,mvN,HV.ren,HO.ren,kZ]) (by simp[aZ,fob_at,upd_at,none0_at,bV,HO.men,HV.men,HV.menL,HV.norm,HV.toC,HV.toCL,hJ,lt14,mvF,mvO,mvN,HV.ren,HO.ren,kZ]))
 refine bI (T3 ?_);clear hK K;refine AX (hK _ _ _ ?_);clear hK K;clear hb;refine dF [33] (bH (fr2:=fin [(6,.c (.slc (ls.map lsC)))]) (ob2:=fob [(0,.tab tabs)]) (nx2:=70000) (aL (by omega) (by simp[aY,fin_at,finA_at,upd_at,HV.men,HV.menL,HV.norm,HV.toC,HV.toCL,eB,eC,HO.close,HV.close,HV.closeL,CV.denil,CV.denilL,aT,fob_at,List.length_map]) (by simp[aZ,fob_at,upd_at,none0_at,bV,HO.men,HV.men,HV.menL,HV.norm,HV.toC,HV.toCL,eB,eC,HO.close,HV.close,HV.closeL,CV.denil,CV.denilL,aT,fob_at,List.length_map])) ?_);refine aB fun K hK=>Rg ?_;have F:=@aT;refine SF ?_;refine HS rfl rfl fun K' hK'=>T6 ?_;refine D1 (bN0 ls (by omega) hI2) ?_;rintro u v ⟨rfl,rfl⟩;rw[cM2];refine AX (hK' _ _ ?_);clear hK' K';iterate 5 refine SF ?_
 refine T2 (hK _ _ _ ?_);clear hK K;refine aB fun K hK=>?_;refine R0 ?_;refine aG (b:=!(iB ls==0)) rfl (fun hb=>?_) (fun hb=>?_)
 · refine aB fun K hK=>Rg ?_;refine HS rfl rfl fun K' hK'=>T5 ?_;refine fJ (args:=[]) 0 aT6 rfl (by simp) ⟨rfl,rfl,rfl,rfl⟩ ?_;rintro u rfl;refine AX (hK' _ _ ?_);clear hK' K';refine S0 ?_;refine T2 (hK _ _ _ ?_);clear hK K;refine aE (RT Tryz.results8 ?_);exact dX [] (.bool true) rfl rfl (by simp) rfl
 refine aJ ?_;refine T0 (hK _ _ _ ?_);clear hK K;have he:=cH0 (show iB ls=0 by simpa using hb);obtain⟨b,hbd⟩: ∃b,b=mG ls:=⟨_,rfl⟩;rw[←hbd]at he⊢;obtain⟨hs1,hs2⟩:=cM1 b;clear hb hbd;refine aB fun K hK=>Rg ?_;have F:=@denilL_u8;refine SF ?_;refine HS rfl rfl fun K' hK'=>T6 ?_;refine uU (args:=[_]) 0 (bF3 b (by omega)) rfl (by simp) ⟨rfl,rfl,rfl,rfl⟩ ?_;rintro u v x ⟨rfl,rfl,rfl⟩;refine AX (hK' _ _ ?_);clear hK' K';iterate 8 refine SF ?_
 refine T2 (hK _ _ _ ?_);clear hK K;refine aB fun K hK=>Rg ?_;refine SF ?_;refine HS rfl rfl fun K' hK'=>T6 ?_;refine mJ (args:=[_]) (cF9 b (by omega)) ⟨rfl,rfl,rfl,rfl⟩ ?_;rintro u v x ⟨rfl,rfl,rfl⟩;refine AX (hK' _ _ ?_);clear hK' K';iterate 8 refine SF ?_
 refine T2 (hK _ _ _ ?_);clear hK K;refine aB fun K hK=>Rg ?_;have F:=@beq_self_eq_true.{0};iterate 11 refine SF ?_
 refine aP (g:=some (108,true)) rfl rfl fun K' hK'=>T6 ?_;refine C2 (cG0 (dpO b) (dpO b) hs1 hs2) ?_;rintro u rfl;rw[decide_eq_true (rfl:dpO b=dpO b)];refine AX (hK' _ _ ?_);clear hK' K';iterate 2 refine SF ?_
 refine aP (g:=some (113,true)) rfl rfl fun K' hK'=>T6 ?_;refine fJ (args:=[]) 0 aT6 rfl (by simp) ⟨rfl,rfl,rfl,rfl⟩ ?_;rintro u rfl;refine AX (hK' _ _ ?_);clear hK' K';iterate 2 refine SF ?_
 refine T2 (hK _ _ _ ?_);clear hK K;refine aE (RT Tryz.results8 ?_);exact dX [] (.bool true) rfl rfl (by simp) rfl
end Go.Proofs.YtlldglbooaefhaaGreatDoor
namespace Go.Hl
open Go Go.RowKit
section
variable {P:Program}{T:TypeId→Prop}{H:Type}{enc:TypeId×Value→H}
theorem bZ9 {w:World}{b:Nat}{sp:Nat→Bool}{hd:Bool}{n:Nat}{t e:TypeId}{a:Option Addr}{len cap:Nat}{d:DataW H}{ps:List MemPlace}(hu:P.underlying t=some (.slice e))(h:DataW.trod enc P w b sp hd n t [.slice a len cap]=some (d,ps))(hw:(d.weights P t).all (· ≤reachBytes)=true):len*P.bytesOf e≤reachBytes:=by
 cases n with
 |zero=>simp[DataW.trod]at h
 |succ n=>
  unfold DataW.trod at h;rw[hu]at h;split at h
  case h_7=>rename_i h1;cases h1;simp
  case h_8=>
   rename_i h1;cases h1;simp only at h;split at h
   ·
    rw[Option.bind_eq_some_iff]at h;obtain⟨xs,hx,h⟩:=h;obtain⟨ys,_,h⟩:=Option.map_eq_some_iff.1 h;cases h;have hl:xs.length=len:=by rw[mapM_some_length hx,List.length_range]
    simp only[DataW.weights,hu,List.all_cons,Bool.and_eq_true,decide_eq_true_eq,List.length_map]at hw;have h1:=hw.1;rw[hl]at h1;exact Nat.le_trans (Nat.mul_le_mul_right _ (Nat.le_add_right _ _)) h1
   · cases h
  all_goals grind
theorem cR0 {w:World}{b:Nat}{sp:Nat→Bool}{hd:Bool}{O:Nat→Prop}{ρ:Env}: ∀{ts:List TypeId} {vs:List Value} {ds:List (DataW H)} {ps:List MemPlace} {cs:List CV},DataW.TrodAll enc P w b sp hd ts vs ds ps→RepHV w ρ O (cs.map .c) vs→(DataW.weightsEach P ts ds).all (· ≤reachBytes)=true→
  ∀(j:Nat) (t e:TypeId) (l:List CV),ts[j]? =some t→cs[j]? =some (.slc l)→P.underlying t=some (.slice e)→l.length*P.bytesOf e≤reachBytes
 |[],_,_,_,_,_,_,_,j,t,e,l,h,_,_=>by simp at h
 |t::ts,_,_,_,[],_,_,_,j,t',e,l,_,h,_=>by simp at h
 |t::ts,_,_,_,c::cs,hA,hr,hw,j,t',e,l,h1,h2,hu=>by
  obtain⟨v,vs1,d,ds1,a,q,rfl,rfl,rfl,⟨n,h3⟩,h4⟩:=ChangeShapes.trodAll_cons hA;rw[List.map_cons,bU]at hr;obtain⟨y,ys,hy,hv,hr⟩:=hr;cases hy;simp only[DataW.weightsEach,List.all_append,Bool.and_eq_true]at hw;cases j with
  |zero=>
   simp only[List.getElem?_cons_zero,Option.some.injEq]at h1 h2;subst h1 h2;obtain⟨h5,h6⟩:=hv;rw[cells_single (by rw[←h6];rfl)]at h5 h3;simp only[RepH,RepC]at h5;obtain⟨a,cap,xs,sz,he,-⟩:=h5;cases he;exact bZ9 hu h3 hw.1
  |succ j=>exact cR0 h4 hr hw.2 j t' e l (by simpa using h1) (by simpa using h2) hu
theorem bN2 {f:FuncId}{fn:Func}{s:ChangeSpec}{mm:Nat}{tb:TypeId}{tabs:lE}(hok:fH P f=true)(K:Kids P T)(hz: ∀t e,T t→P.underlying t=some (.slice e)→0<P.cellsOf e)(hvars:s.vars=[])(hres:fn.resultTypes= #[tb])(htb:P.underlying tb=some .bool)
  (hspec: ∀(H:Type) (ds:List (DataW H)),ds.length=fn.params.toList.length→(s.fn H ds).results=[.lit (.bool true)]∧(s.fn H ds).args=ds∧(s.fn H ds).vars=[]) (hpl: ∀t∈fn.params.toList,mK P mm t=true∧T t)
  (hlaw: ∀cs:List CV,cs.length=fn.params.toList.length→(∀(j:Nat) t c,fn.params.toList[j]? =some t→cs[j]? =some c→HasTy P t c)→(∀(j:Nat) t e l,fn.params.toList[j]? =some t→cs[j]? =some (CV.slc l)→P.underlying t=some (.slice e)→l.length*P.bytesOf e≤reachBytes)→mM P f tabs cs (fun v=>v= .bool true))
  {W:World} (htab: ∀x∈tabs,∃t fz,W.heap[x.1]? =some (.cells x.2.toArray t fz)) {args:Array Value} {ds gs:List (DataW H)} {before:List MemPlace} (hval: ∀(j:Nat) t v,fn.params[j]? =some t→args[j]? =some v→Value.okWide P W .any 0 t v)
  (hwt:(DataW.weightsEach P (fn.params.toList++s.plain.varTypes P) (ds++gs)).all (· ≤reachBytes)=true)
  (hW:DataW.Whole enc P fn.params.toList s.vars false W args.toList ds gs before):
  Calls P f args W fun e W'=> ∃v,e= .returned v∧s.post enc P fn false true false false W args v W':=by
 have hlen: ∀cs:List CV,RepHV W (fun _=>none) (Owned (fun _=>none) (fun _=>False)) (cs.map .c) args.toList→ ∀(j:Nat) t e l,fn.params.toList[j]? =some t→cs[j]? =some (CV.slc l)→P.underlying t=some (.slice e)→l.length*P.bytesOf e≤reachBytes:=fun cs hr=>by
  obtain⟨p,q,hA,hV,-⟩:=hW;have hv0:s.plain.varTypes P=[]:=by
   unfold ChangeSpec.plain;simp[DataSpec.varTypes,hvars]
  rw[hvars]at hV;obtain⟨rfl,rfl⟩:=ChangeShapes.trodVars_none hV;rw[hv0,List.append_nil,List.append_nil]at hwt;exact cR0 hA hr hwt
 exact bH7 hok K hz hvars hres htb hspec hpl (fun cs h1 h2 h3=>hlaw cs h1 h2 (hlen cs h3)) htab hval hW
end
end Go.Hl
namespace Go.Proofs.YtlldglbooaefhaaGreatDoor
open Go Go.Hl Go.Pl
set_option maxRecDepth 100000
theorem zB {W:World}(h:laidMetH Tryz.prog Rows.policyLinesRow.laid W):Lib.TabIs Tryz.prog W "internal/strconv.uint64pow10" .u64 Lib.pow10Tab:=by
  rw[MakeChecks.laidMetH_plain _ _ _ (by kernel_rfl)]at h;have h2:=laidMet.filter (fun x=>x.1== "internal/strconv.uint64pow10") h;have e:(Rows.policyLinesRow.laid.filter fun x=>x.1== "internal/strconv.uint64pow10")=[("internal/strconv.uint64pow10",Lib.tabData .u64 Lib.pow10Tab)]:=by kernel_rfl
  rw[e]at h2;exact Lib.tabIs_of_head aI9 (by kernel_rfl) Tryz.underlying169 Tryz.underlying116 (by kernel_rfl) (by kernel_rfl) h2
theorem oJ (H:Type)(enc:TypeId×Value→H)(W:World)(args:Array Value)(ds gs:List (DataW H))(before:List MemPlace)
    (hL:laidMetH Tryz.prog Rows.policyLinesRow.laid W)
    (hval: ∀(j:Nat) t v,Tryz.f8.params[j]? =some t→args[j]? =some v→Value.okWide Tryz.prog W .any 0 t v)
    (hwt:(DataW.weightsEach Tryz.prog (Tryz.f8.params.toList++Rows.policyLinesSpec.plain.varTypes Tryz.prog) (ds++gs)).all (· ≤reachBytes)=true)
    (hW:DataW.Whole enc Tryz.prog Tryz.f8.params.toList Rows.policyLinesSpec.vars false W args.toList ds gs before):
    Calls Tryz.prog 8 args W fun e W'=> ∃v,e= .returned v∧Rows.policyLinesSpec.post enc Tryz.prog Tryz.f8 false true false false W args v W':=by
  refine bN2 (mm:=6) (tb:=4) (tabs:=tabs) (by kernel_rfl) kids aY1 rfl (by kernel_rfl) Tryz.underlying4 ?_ ?_ ?_ ?_ (fun j t v h1 h2=>?_) hwt hW
  · rw[Tryz.params8]
    intro H ds h
    match ds,h with
    |[c0,c1],_=>exact⟨rfl,rfl,rfl⟩
  · rw[Tryz.params8]
    intro t ht;simp only[List.mem_cons,List.not_mem_nil,or_false]at ht;rcases ht with rfl|rfl
    · exact⟨by kernel_rfl,of_decide_eq_true (by kernel_rfl)⟩
    · exact⟨by kernel_rfl,of_decide_eq_true (by kernel_rfl)⟩
  · rw[Tryz.params8]
    intro cs hn hty hsl
    match cs,hn,hty,hsl with
    |[c0,c1],_,hty,hsl=>
      obtain⟨L,rfl,hw,hl⟩:=cE2 (hty 0 _ c0 rfl rfl);obtain⟨ws,rfl⟩:=cH1 (hty 1 _ c1 rfl rfl);have hb:=hsl 1 _ _ _ rfl rfl Tryz.underlying60;rw[show Tryz.prog.bytesOf 9=16 from by kernel_rfl,List.length_map,reachBytes]at hb;exact bN1 L ws (by omega)
  · intro x hx
    simp only[tabs,List.mem_cons,List.not_mem_nil,or_false]at hx;rcases hx with rfl
    · exact yS aI9 (zB hL)
  · exact hval j t v h1 h2
open Go.ChangeShapes Go.WideShapes Go.ChangeAt Go.RowKit in
set_option maxRecDepth 100000 in
theorem qM (os:Os)(started:os.Started)(H:Type)(enc:TypeId×Value→H):
    ReturnsInHanded {} Tryz.checked os 8 .any (fun w args=>(Rows.policyLinesSpec.pre enc Tryz.prog Tryz.f8 [] false w args∧laidMetH Tryz.prog Rows.policyLinesRow.laid w)∧sizedMet enc Tryz.prog Tryz.f8 (OpenSpec.ofChange Rows.policyLinesSpec) false w args)
      (Rows.policyLinesSpec.post enc Tryz.prog Tryz.f8 false true false false):=by
  refine returnsInHanded_of_change_and (C:=Tryz.checked) (X:=fun w _=>laidMetH Tryz.prog Rows.policyLinesRow.laid w) (fun _ _ _ hh h=>h.of_heap hh) own started (by kernel_rfl) Tryz.func8
    (ChangeSpec.witness_shaped (enc:=enc) (C:=Tryz.checked) (os:=os) (X:=fun w _=>laidMetH Tryz.prog Rows.policyLinesRow.laid w) false (World.laidAll Tryz.prog os Rows.policyLinesRow.laid) #[.slice none 0 0,.slice none 0 0] 8 (World.laidAll_os _ _ _)
      (World.shaped_of_ZipB (by kernel_rfl) (by kernel_rfl)) (by kernel_rfl) (by kernel_rfl) (by kernel_rfl)
      (by rw[MakeChecks.laidMetH_plain _ _ _ (by kernel_rfl)];exact laidMet_laidAll _ (by kernel_rfl) (by kernel_rfl))) ?_
  intro W base args ds gs before hval hW _ hwt hL _;exact oJ H enc W args ds gs before hL (fun j t v h1 h2=>(hval j t v h1 h2)) hwt hW
theorem vG :Rows.PolicyLinesSaid:=
  OpenClaim.holds_of_wide 8 Tryz.f8 rfl rfl rfl rfl rfl rfl rfl ⟨rfl,rfl,rfl,rfl,rfl⟩ rfl rfl rfl rfl rfl (by kernel_rfl) Tryz.func8 (by kernel_rfl)
    (of_decide_eq_true (by kernel_rfl)) (by unfold Func.isWrapper;first|(rw[if_pos (by decide+kernel)];kernel_rfl)|(rw[if_neg (by decide+kernel)];exact⟨rfl,rfl⟩))
    (fun os started H enc _=>qM os started H enc)
theorem policyLines_said :Rows.PolicyLinesCardSaid:=
  Claim7.holds_tied_plain_at .later [] [.data,.data,.data,.data,.pinned] true (true,"ff5d47cd62c7d13f21802cca9c8b9512cc3c2844dd4407b78ea0f3c0525ec3f2") false vG (fun _ h=>by cases h) (by kernel_rfl) (fun _ h=>by cases h) policyLines_row_tie rfl ⟨rfl,rfl⟩ (by kernel_rfl) rfl
    (fun f fn hf hfn=>by
      obtain rfl:f=8:=Option.some.inj ((show Tryz.prog.funcNamed "admission/admissionlaw28.PolicyLines" =some 8 by kernel_rfl).symm.trans hf)|>.symm;obtain rfl:fn=Tryz.f8:=(Option.some.inj (Tryz.func8.symm.trans hfn)).symm;exact⟨by kernel_rfl,fun j t ht=>by
        rw[Tryz.params8]at ht;have hm:t∈[23,60]:=by simpa using Array.mem_of_getElem? ht
        have hall:([23,60].all fun u=>!Tryz.prog.wantsStandIn u)=true:=by kernel_rfl
        exact(show Tryz.prog.wantsStandIn t=false by simpa using List.all_eq_true.1 hall t hm)⟩)
    (by kernel_rfl)
#print axioms policyLines_said
end Go.Proofs.YtlldglbooaefhaaGreatDoor
