/- Part of a proof: walks of functions of the program, by contracts, and the rules they use. By an AI agent. -/
import Derived.Test.YtlldglbooaefhaaGreatDoorHzU1
import Derived.Test.YtlldglbooaefhaaGreatDoorHzTt
import Derived.Test.YtlldglbooaefhaaGreatDoorHlTlaw
import Derived.Test.YtlldglbooaefhaaGreatDoorPl28q
import Derived.Test.YtlldglbooaefhaaGreatDoorPl03e
import Derived.Test.YtlldglbooaefhaaGreatDoorPl11w
import Derived.Test.YtlldglbooaefhaaGreatDoorPl28x
import Derived.Test.YtlldglbooaefhaaGreatDoorHzTj
import Derived.Test.YtlldglbooaefhaaGreatDoorHzTc
import Derived.Test.YtlldglbooaefhaaGreatDoorPl03c
import Derived.Test.YtlldglbooaefhaaGreatDoorHzUt
import Derived.Test.YtlldglbooaefhaaGreatDoorHzTn
import Derived.Test.YtlldglbooaefhaaGreatDoorHzV3
set_option linter.unusedSimpArgs false
set_option linter.unusedVariables false
set_option linter.defProp false
namespace Go.Proofs.YtlldglbooaefhaaGreatDoor
open Go Go.Hl Go.Pl
set_option maxRecDepth 10000
set_option maxHeartbeats 16000000
theorem cQ9 (L:List (List aF)):lst [.tab tabs,.row 60 1 (L.map lsC)]=fob [(0,.tab tabs),(1,.row 60 1 (L.map lsC))]:=by
 funext i
 match i with
 |0=>rfl
 |1=>rfl
 |i+2=>simp[lst,fob,upd]
theorem aZ4 (n:Nat)(ob:Ob)(e:TypeId)(sz:Nat)(T:lE)(L:List CV):kD (sub [0,1] n) ob 0 [.tab T,.row e sz L]=upd (upd ob 0 (some (.tab T))) 1 (some (.row e sz L)):=rfl
theorem yG {ob:Ob}{L:List CV}{M:List (List aF)}{m:Nat}{a:Nat}(h0:ob 0=some (.tab tabs))(h1:ob 1=some (.row 60 1 L))(hm:m=M.length)(hL:L=M.map lsC):
  mB 2 (.tup [.own 1 m,.c (.int .i64 a)]) ob (fun r ob'=> ∃os',ob'=lst os'∧(2≤os'.length∧os'.length≤2+4)∧r= .tup [.own 1 M.length,.c (.int .i64 a)]∧os'=[.tab tabs,.row 60 1 (M.map lsC)]):=by
 subst hm hL;exact eO [] [] (.tup [.own 1 M.length,.c (.int .i64 a)]) [.tab tabs,.row 60 1 (M.map lsC)] rfl (by simp[HV.men,HV.menL]) ⟨⟨by simp[HO.men],by simp,_,h0,rfl⟩,⟨by simp[HO.men],by simp,_,h1,rfl⟩,trivial⟩ rfl List.nodup_nil (by simp) (by simp) ⟨rfl,rfl⟩
theorem bZ1 (l:List Nd)(ht:IsTree l)(m:Nat): ∀(L:List (List aF)) (i:Nat) (hi:i<l.length),l.length-i≤m→0<L.length→L.length+2*(l.length-i)<2^40→
  HGe Tryz.prog 52 [.own 1 L.length,.c (.slc (l.map Nd.cv)),.c (.int .i64 i)] [.tab tabs,.row 60 1 (L.map lsC)] (fun r os'=>r= .tup [.own 1 (L++kH l i).length,.c (.int .i64 (aft l i:Nat))]∧os'=[.tab tabs,.row 60 1 ((L++kH l i).map lsC)]):=by
 induction m using Nat.strongRecOn with
 |ind m ih=>?_
 intro L i hi hfu hL0 hLl;refine cI (args:=[.own 1 L.length,.c (.slc (l.map Nd.cv)),.c (.int .i64 i)]) Tryz.func52 rfl (by kernel_rfl) (fZ rfl (by simp[eU,HO.men,HV.men,HV.menL]) (by simp[HV.menL,HV.men])) (Nat.le_of_ble_eq_true rfl) ?_;show Hw _ _ 2 _ _ _ (lst _) 2;rw[cQ9];have hnode:=ht.node _ (List.getElem_mem hi);obtain⟨c1,c2,c3,c4⟩:=eN hnode;have hll:=ht.len;have hwi:IntKind.i64.wrap ((i:Int)+1)=((i+1:Nat):Int):=IntWalk.i64_in _ (by omega);obtain⟨a1,a2,a3⟩:=lF ht hi;refine R0 ?_;refine aB fun K hK=>Rg ?_;have F:=aI @Int.natCast_nonneg (aI @Int.ofNat_lt (aI hi (nM hi)));iterate 6 refine SF ?_
 refine T2 (hK _ _ _ ?_);clear hK K;have F:=hwi;refine RF ?_;refine aB fun K hK=>?_;have key: ∀fr ob nx,l[i].k≠1→Fits 2 fr ob (fin [(0,.own 1 (L.length+1)),(1,.c (.slc (l.map Nd.cv))),(2,.c (.int .i64 ((i+1:Nat):Int))),(8,.ptr 26 0)]) (fob [(0,.tab tabs),(1,.row 60 1 ((L++[wlN l[i]]).map lsC)),(26,.box 40 (.c l[i].cv))]) 300→K fr ob nx:=by
  rintro fr ob nx hk1 hf;refine hK _ _ _ (bH hf ?_);clear hf hK K;refine aB fun K hK=>?_;refine R0 ?_;refine aN ?_;refine bS (α:={k:Nat//k≤l[i].c.toNat}) (fun k=>(fin [(0,.own 1 (L.length+1+(eW l i k.1).length)),(1,.c (.slc (l.map Nd.cv))),(2,.c (.int .i64 (eV l k.1 (i+1):Nat))),(48,.c (.int .i64 l[i].c)),(49,.c (.int .i64 k.1))],fob [(0,.tab tabs),(1,.row 60 1 ((L++wlN l[i]::eW l i k.1).map lsC))])) 2000 (fun k=>l[i].c.toNat-k.1) ⟨0,by omega⟩ (aL (by omega) (by simp[aY,fin_at,finA_at,upd_at,HV.men,HV.menL,HV.norm,HV.toC,HV.toCL,mQ,eV]) (by simp[aZ,fob_at,upd_at,none0_at,bV,HO.men,HV.men,HV.menL,HV.norm,HV.toC,HV.toCL,mQ,eV])) ?_;rintro⟨k,hk⟩;obtain⟨k1,k2,k3⟩:=iN ht hi k hk;have hkl:=aR9 ht hi hk hk1;refine R0 ?_;refine aB fun K hK=>?_;refine aG (b:=decide ((k:Int)<l[i].c)) rfl (fun hb=>?_) (fun hb=>?_)
  ·
   have hlt:k<l[i].c.toNat:=by simp at hb;omega
   have hkid:=nV ht hi hlt;clear hb;obtain⟨M,hM⟩: ∃M,M=L++wlN l[i]::eW l i k:=⟨_,rfl⟩;have hMl:L.length+1+(eW l i k).length=M.length:=by rw[hM];simp;omega
   rw[←hM,hMl];refine aJ ?_;refine T0 (hK _ _ _ ?_);clear hK K;refine aB fun K hK=>?_;refine aN ?_;refine Rg ?_;iterate 3 refine S0 ?_
   refine HS rfl rfl fun K' hK'=>T5 ?_;refine fP [0,1] (ih (l.length-eV l k (i+1)) (by omega) M (eV l k (i+1)) hkid (by omega) (by omega) (by omega)) rfl ⟨rfl,rfl,trivial⟩ (by simp) (by simp) ⟨rfl,rfl,rfl,rfl⟩ (by simp[eU,HO.men,HV.men,HV.menL]) (by simp[HV.menL,HV.men]) ?_;rintro r os' ⟨rfl,rfl⟩;rw[aZ4,aT5];refine AX (hK' _ _ ?_);clear hK' K';iterate 5 refine S0 ?_
   refine T2 (hK _ _ _ ?_);clear hK K;refine aK (by kernel_rfl) ?_;refine TQ (IntWalk.i64_in ((k:Int)+1) (by omega)) ?_;refine⟨⟨k+1,hlt⟩,?_,?_⟩
   ·
    have e1:M++kH l (eV l k (i+1))=L++wlN l[i]::eW l i (k+1):=by rw[hM,rW ht hi hlt];simp
    have e2:(M++kH l (eV l k (i+1))).length=L.length+1+(eW l i (k+1)).length:=by rw[e1];simp;omega
    simp only[];rw[←e1,←e2,gU];exact fF
   show l[i].c.toNat-(k+1)<l[i].c.toNat-k;omega
  refine bI (T3 ?_);clear hK K;refine AX (hK _ _ _ ?_);clear hK K;have hke:k=l[i].c.toNat:=by simp at hb;omega
  subst hke;rw[yC ht hi]at hkl k3;clear hb;refine aB fun K hK=>bX (by kernel_rfl) ?_;simp only[sR,simprocAttr];have F:=aI @jT @eS;refine SGF ?_;refine dJ (g:=none) 2008 rfl rfl fun K' hK'=>?_;simp only[iJ,lB,sH,↓sP,sA,tyS,simprocAttr,jT,eS];repeat refine AI ?_
  refine dT (by first|rfl|simp) ?_;try simp only[sH,↓sP,sA,tyS,simprocAttr,jT,eS]
  refine AX (hK' _ _ ?_);clear hK' K';iterate 5 refine SGF ?_
  refine T2 (hK _ _ _ ?_);clear hK K;refine aE (RT Tryz.results52 ?_);rw[uQ ht hi hk1,yC ht hi];exact yG (M:=L++wlN l[i]::(eW l i l[i].c.toNat++[[wEnd]])) rfl rfl (by simp) (by simp[lsC,wEnd])
 refine R0 ?_;refine aN ?_;refine R0 ?_;refine aG (b:=(l[i].k==1)) rfl (fun hb=>?_) (fun hb=>?_)
 ·
  have hk:l[i].k=1:=by simpa using hb
  obtain⟨⟨r1,r2⟩,r3,r4⟩:=bW8 (cE9 hnode hk);clear hb;refine aB fun K hK=>Rg ?_;have F:=aI @jT @eS;iterate 3 refine SF ?_
  refine HS rfl rfl fun K' hK'=>T6 ?_;refine fJ (args:=[_]) 0 (bZ0 l[i].q ⟨by omega,by omega⟩ ⟨by omega,by omega⟩) rfl (by simp) ⟨rfl,rfl,rfl,rfl⟩ ?_;rintro u rfl;refine AX (hK' _ _ ?_);clear hK' K';iterate 5 refine SF ?_
  refine T2 (hK _ _ _ ?_);clear hK K;refine aE (RT Tryz.results52 ?_);rw[xP hi hk,aR8 ht hi hk];exact yG (M:=L++[wlR l[i].q]) rfl rfl (by simp) (by simp)
 have hk1:l[i].k≠1:=by simpa using hb
 clear hb;refine R0 ?_;refine aG (b:=(l[i].k==2)) rfl (fun hb=>?_) (fun hb=>?_)
 ·
  have hk:l[i].k=2:=by simpa using hb
  have hwl:wlN l[i]=[eZ]:=by simp[wlN,hk]
  clear hb;refine bX (by kernel_rfl) ?_;simp only[sR,simprocAttr];refine SG0 ?_;refine dJ (g:=none) 74 rfl rfl fun K' hK'=>?_;simp only[iJ,lB,sH,↓sP,sA,tyS,simprocAttr];repeat refine AI ?_
  refine dT (by first|rfl|simp) ?_;try simp only[sH,↓sP,sA,tyS,simprocAttr]
  refine AX (hK' _ _ ?_);clear hK' K';iterate 3 refine SG0 ?_
  refine T4 ?_;exact key _ _ _ hk1 (by rw[hwl];exact aL (by omega) (by simp[aY,fin_at,finA_at,upd_at,HV.men,HV.menL,HV.norm,HV.toC,HV.toCL,lsC,eZ,fA,bQ]) (by simp[aZ,fob_at,upd_at,none0_at,bV,HO.men,HV.men,HV.menL,HV.norm,HV.toC,HV.toCL,lsC,eZ,fA,bQ]))
 have hk2:l[i].k≠2:=by simpa using hb
 clear hb;refine R0 ?_;refine aG (b:=(l[i].k==3)) rfl (fun hb=>?_) (fun hb=>?_)
 ·
  have hk:l[i].k=3:=by simpa using hb
  have hwl:wlN l[i]=[fA]:=by simp[wlN,hk]
  clear hb;refine bX (by kernel_rfl) ?_;simp only[sR,simprocAttr];refine SG0 ?_;refine dJ (g:=none) 82 rfl rfl fun K' hK'=>?_;simp only[iJ,lB,sH,↓sP,sA,tyS,simprocAttr];repeat refine AI ?_
  refine dT (by first|rfl|simp) ?_;try simp only[sH,↓sP,sA,tyS,simprocAttr]
  refine AX (hK' _ _ ?_);clear hK' K';iterate 3 refine SG0 ?_
  refine T4 ?_;exact key _ _ _ hk1 (by rw[hwl];exact aL (by omega) (by simp[aY,fin_at,finA_at,upd_at,HV.men,HV.menL,HV.norm,HV.toC,HV.toCL,lsC,eZ,fA,bQ]) (by simp[aZ,fob_at,upd_at,none0_at,bV,HO.men,HV.men,HV.menL,HV.norm,HV.toC,HV.toCL,lsC,eZ,fA,bQ]))
 have hk3:l[i].k≠3:=by simpa using hb
 have hk4:=cE8 hnode hk1 hk2 hk3;clear hb;refine R0 ?_;refine aG (b:=(l[i].k==4)) rfl (fun hb=>?_) (fun hb=>?_)
 ·
  have hwl:wlN l[i]=[bQ,numW l[i].n]:=by simp[wlN,hk2,hk3]
  have hnn:=cF0 hnode hk4;clear hb;refine bX (by kernel_rfl) ?_;simp only[sR,simprocAttr];iterate 3 refine SG0 ?_
  refine bZ (g:=none) rfl rfl fun K' hK'=>T5 ?_;refine fJ (args:=[_]) 0 (yF l[i].n ⟨by omega,by omega⟩) rfl (by simp) ⟨rfl,rfl,rfl,rfl⟩ ?_;rintro u rfl;refine AX (hK' _ _ ?_);clear hK' K';refine dJ (g:=none) 102 rfl rfl fun K' hK'=>?_;simp only[iJ,lB,sH,↓sP,sA,tyS,simprocAttr];repeat refine AI ?_
  refine dT (by first|rfl|simp) ?_;try simp only[sH,↓sP,sA,tyS,simprocAttr]
  refine AX (hK' _ _ ?_);clear hK' K';iterate 3 refine SG0 ?_
  refine T4 ?_;exact key _ _ _ hk1 (by rw[hwl];exact aL (by omega) (by simp[aY,fin_at,finA_at,upd_at,HV.men,HV.menL,HV.norm,HV.toC,HV.toCL,lsC,eZ,fA,bQ]) (by simp[aZ,fob_at,upd_at,none0_at,bV,HO.men,HV.men,HV.menL,HV.norm,HV.toC,HV.toCL,lsC,eZ,fA,bQ]))
 rw[hk4]at hb;cases hb
theorem tV (p:Po)(hp:PoSz p):cG Tryz.prog 29 [p.cv] (fun v=>v= .bool (eY p)):=by
 have hpn:=hp.n;have hpr:=hp.r;refine FW Tryz.func29 ?_;refine R0 ?_;refine aB fun K hK=>?_;refine aB fun K hK=>?_;have key: ∀(b:Bool) fr ob nx,b=vE p→Fits 0 fr ob (fin [(1,.ptr 0 0),(21,.c (.bool b))]) (fob [(0,.box 45 (.c p.cv))]) 600→K fr ob nx:=by
  rintro b fr ob nx rfl hf;refine hK _ _ _ (bH hf ?_);clear hf hK K;refine aG (b:=vE p) rfl (fun hb=>?_) (fun hb=>?_)
  · refine R0 ?_;refine aE (RT Tryz.results29 ?_);exact aH [] (.bool false) rfl (by rw[aD1 hb])
  refine aJ ?_;refine T0 (hK _ _ _ ?_);clear hK K;refine R0 ?_;refine aB fun K hK=>?_;refine aB fun K hK=>Rg ?_;iterate 4 refine S0 ?_
  refine T2 (hK _ _ _ ?_);clear hK K;refine aN ?_;have hhead:=hb;clear hb;refine bS (α:={i:Nat//RlSt p.r i}) (fun i=>(fin [(3,.mapr 600),(24,.c (.slc (p.r.map Pr.cv))),(25,.c (.int .i64 p.r.length)),(26,.c (.int .i64 i.1))],fob [(600,.mp 0 0 (nmD (p.r.take i.1)))])) 2000 (fun i=>p.r.length-i.1) ⟨0,RlSt.zero p.r⟩ (aL (by omega) (by simp[aY,fin_at,finA_at,upd_at,HV.men,HV.menL,HV.norm,HV.toC,HV.toCL,nmD]) (by simp[aZ,fob_at,upd_at,none0_at,bV,HO.men,HV.men,HV.menL,HV.norm,HV.toC,HV.toCL,nmD])) ?_;rintro⟨i,hΦ⟩;refine R0 ?_;refine aB fun K hK=>?_;refine aG (b:=decide ((i:Int)<p.r.length)) rfl (fun hb=>?_) (fun hb=>?_)
  ·
   have hlt:i<p.r.length:=by simpa using hb
   clear hb;obtain⟨r,hr⟩: ∃r,r=p.r[i]:=⟨_,rfl⟩;have hmem:r∈p.r:=by rw[hr];exact List.getElem_mem hlt
   have hra:=hp.a r hmem;have hrt:=hp.t r hmem;have hra2:r.a.length≤maxLen:=by simp[maxLen];omega
   have hiv:nE (cW (nmD (p.r.take i)) r.a)=true:=by rw[bE2];split<;>rfl
   have hva:Go.Hl.zG (CV.bool false) (cW (nmD (p.r.take i)) r.a)=CV.bool (((p.r.take i).map Pr.a).contains r.a):=by rw[bE2];split<;>simp_all[Go.Hl.zG]
   refine aJ ?_;refine T0 (hK _ _ _ ?_);clear hK K;refine aB fun K hK=>?_;refine aN ?_;refine aB fun K hK=>Rg ?_;iterate 4 refine S0 ?_ (e:=fun _ h_=>by simp only[sH,↓sP,sA,tyS,simprocAttr,Int.natCast_nonneg,Int.ofNat_lt,hlt,bR hlt,←hr];exact AX h_)
   refine T2 (hK _ _ _ ?_);clear hK K;refine aB fun K hK=>?_;refine aB fun K hK=>?_;have key: ∀(b:Bool) fr ob nx,b=oF (((p.r.take i).map Pr.a).contains r.a) r→Fits 0 fr ob (fin [(3,.mapr 600),(24,.c (.slc (p.r.map Pr.cv))),(25,.c (.int .i64 p.r.length)),(26,.c (.int .i64 i)),(5,.ptr 2012 0),(63,.c (.bool b))]) (fob [(600,.mp 0 0 (nmD (p.r.take i))),(2012,.box 54 (.c r.cv))]) 3000→K fr ob nx:=by
    rintro b fr ob nx rfl hf;refine hK _ _ _ (bH hf ?_);clear hf hK K;refine aG (b:=oF (((p.r.take i).map Pr.a).contains r.a) r) rfl (fun hb=>?_) (fun hb=>?_)
    · refine R0 ?_;refine aE (RT Tryz.results29 ?_);exact aH [] (.bool false) rfl (by rw[aI5 (aI4 hlt (by rw[←aS0,←hr];exact hb))])
    have hΦ2:=hΦ.succ hlt (by rw[←aS0,←hr];exact hb);have hnm:kJ (nmD (p.r.take i)) r.a (.val (.bool true))=nmD (p.r.take (i+1)):=by rw[List.take_succ_eq_append_getElem hlt,bX0,hr]
    clear hb;refine aJ ?_;refine T0 (hK _ _ _ ?_);clear hK K;refine Rg ?_;have F:=aI hra2 (aI hiv hnm);iterate 4 refine SF ?_
    refine T2 (hK _ _ _ ?_);clear hK K;refine aK (by kernel_rfl) ?_;refine TQ (IntWalk.i64_in ((i:Int)+1) (by omega)) ?_;refine⟨⟨i+1,hΦ2⟩,fF,?_⟩;show p.r.length-(i+1)<p.r.length-i;omega
   refine Rg ?_;have F:=aI hra2 (aI hiv hva);iterate 5 refine SF ?_
   refine aD 33 rfl (fun h7_33=>?_) (fun h7_33=>?_)
   ·
    have F:=aI hra2 (aI hiv (aI hva h7_33));iterate 29 refine SF ?_
    refine T4 ?_;exact key true _ _ _ (by simp only[oF,h7_33,Bool.not_true,Bool.not_false,Bool.true_or,Bool.false_or]) (fF)
   have F:=aI hra2 (aI hiv (aI hva h7_33));iterate 2 refine SF ?_
   refine aP (g:=some (34,false)) rfl rfl fun K' hK'=>T6 ?_;refine C1 (aG4 r.a (by omega)) ?_;rintro u rfl;refine AX (hK' _ _ ?_);clear hK' K';iterate 3 refine SF ?_
   refine aD 37 rfl (fun h7_37=>?_) (fun h7_37=>?_)
   ·
    have F:=aI hra2 (aI hiv (aI hva (aI h7_33 h7_37)));iterate 2 refine SF ?_
    refine aP (g:=some (40,false)) rfl rfl fun K' hK'=>T6 ?_;refine C1 (bD5 r.b) ?_;rintro u rfl;refine AX (hK' _ _ ?_);clear hK' K';iterate 3 refine SF ?_
    refine aD 43 rfl (fun h7_43=>?_) (fun h7_43=>?_)
    ·
     have F:=aI hra2 (aI hiv (aI hva (aI h7_33 (aI h7_37 h7_43))));iterate 2 refine SF ?_
     refine aP (g:=some (46,false)) rfl rfl fun K' hK'=>T6 ?_;refine C1 (bD5 r.c) ?_;rintro u rfl;refine AX (hK' _ _ ?_);clear hK' K';iterate 3 refine SF ?_
     refine aD 49 rfl (fun h7_49=>?_) (fun h7_49=>?_)
     ·
      have F:=aI hra2 (aI hiv (aI hva (aI h7_33 (aI h7_37 (aI h7_43 h7_49)))));iterate 2 refine SF ?_
      refine aP (g:=some (52,false)) rfl rfl fun K' hK'=>T6 ?_;refine C3 (iO _ _ _) ?_;rintro u rfl;refine AX (hK' _ _ ?_);clear hK' K';iterate 3 refine SF ?_
      refine aD 55 rfl (fun h7_55=>?_) (fun h7_55=>?_)
      ·
       have F:=aI hra2 (aI hiv (aI hva (aI h7_33 (aI h7_37 (aI h7_43 (aI h7_49 h7_55))))));iterate 2 refine SF ?_
       refine aP (g:=some (58,false)) rfl rfl fun K' hK'=>T6 ?_;refine C1 (vR r.t hrt) ?_;rintro u rfl;refine AX (hK' _ _ ?_);clear hK' K';iterate 2 refine SF ?_
       refine aD 61 rfl (fun h7_61=>?_) (fun h7_61=>?_)
       · simp only[h7_61];refine T4 ?_;exact key false _ _ _ (by simp only[oF,h7_33,h7_37,h7_43,h7_49,h7_55,h7_61,Bool.not_true,Bool.not_false,Bool.true_or,Bool.false_or]) (fF)
       simp only[h7_61];refine T4 ?_;exact key true _ _ _ (by simp only[oF,h7_33,h7_37,h7_43,h7_49,h7_55,h7_61,Bool.not_true,Bool.not_false,Bool.true_or,Bool.false_or]) (fF)
      have F:=aI hra2 (aI hiv (aI hva (aI h7_33 (aI h7_37 (aI h7_43 (aI h7_49 h7_55))))));iterate 5 refine SF ?_
      refine T4 ?_;exact key true _ _ _ (by simp only[oF,h7_33,h7_37,h7_43,h7_49,h7_55,Bool.not_true,Bool.not_false,Bool.true_or,Bool.false_or]) (fF)
     have F:=aI hra2 (aI hiv (aI hva (aI h7_33 (aI h7_37 (aI h7_43 h7_49)))));iterate 11 refine SF ?_
     refine T4 ?_;exact key true _ _ _ (by simp only[oF,h7_33,h7_37,h7_43,h7_49,Bool.not_true,Bool.not_false,Bool.true_or,Bool.false_or]) (fF)
    have F:=aI hra2 (aI hiv (aI hva (aI h7_33 (aI h7_37 h7_43))));iterate 17 refine SF ?_
    refine T4 ?_;exact key true _ _ _ (by simp only[oF,h7_33,h7_37,h7_43,Bool.not_true,Bool.not_false,Bool.true_or,Bool.false_or]) (fF)
   have F:=aI hra2 (aI hiv (aI hva (aI h7_33 h7_37)));iterate 23 refine SF ?_
   refine T4 ?_;exact key true _ _ _ (by simp only[oF,h7_33,h7_37,Bool.not_true,Bool.not_false,Bool.true_or,Bool.false_or]) (fF)
  refine bI (T3 ?_);clear hK K;refine AX (hK _ _ _ ?_);clear hK K;refine R0 ?_;refine aE (RT Tryz.results29 ?_);have hie:i=p.r.length:=by have:=hΦ.le;simp at hb;omega
  subst hie;exact aH [] (.bool true) rfl (by rw[aS1 hhead hΦ])
 refine Rg ?_;iterate 2 refine S0 ?_
 refine HS rfl rfl fun K' hK'=>T5 ?_;refine C1 (aG4 p.n (by omega)) ?_;rintro u rfl;refine AX (hK' _ _ ?_);clear hK' K';iterate 2 refine S0 ?_
 refine aD 8 rfl (fun h1_8=>?_) (fun h1_8=>?_)
 ·
  have F:=h1_8;iterate 2 refine SF ?_
  refine aP (g:=some (10,false)) rfl rfl fun K' hK'=>T6 ?_;refine C3 (iO _ _ _) ?_;rintro u rfl;refine AX (hK' _ _ ?_);clear hK' K';iterate 3 refine SF ?_
  refine aD 13 rfl (fun h1_13=>?_) (fun h1_13=>?_)
  ·
   have F:=aI h1_8 h1_13;iterate 5 refine SF ?_
   refine aD 20 rfl (fun h1_20=>?_) (fun h1_20=>?_)
   · simp only[h1_20];refine T4 ?_;exact key true _ _ _ (by simp only[vE,h1_8,h1_13,h1_20,Bool.not_true,Bool.not_false,Bool.true_or,Bool.false_or]) (fF)
   simp only[h1_20];refine T4 ?_;exact key false _ _ _ (by simp only[vE,h1_8,h1_13,h1_20,Bool.not_true,Bool.not_false,Bool.true_or,Bool.false_or]) (fF)
  have F:=aI h1_8 h1_13;iterate 5 refine SF ?_
  refine T4 ?_;exact key true _ _ _ (by simp only[vE,h1_8,h1_13,Bool.not_true,Bool.not_false,Bool.true_or,Bool.false_or]) (fF)
 have F:=h1_8;iterate 11 refine SF ?_
 refine T4 ?_;exact key true _ _ _ (by simp only[vE,h1_8,Bool.not_true,Bool.not_false,Bool.true_or,Bool.false_or]) (fF)
theorem bZ2 (ls:List (List aF))(h0:ls.length<2^40)(h1: ∀l∈ls,l.length<2^40):gT Tryz.prog 53 [.slc (ls.map lsC)] (fun u v=>u= .slc ((mG ls).map dM)∧v= .int .i64 (iB ls)):=cK0 ls h0 h1
theorem aZ5 (N n:Nat)(ob:Ob)(e:TypeId)(sz:Nat)(T:lE)(L:List CV):kD (sub [0,N] n) ob 0 [.tab T,.row e sz L]=upd (upd ob 0 (some (.tab T))) N (some (.row e sz L)):=rfl
theorem bF1 (p:Po)(hp:PoSz p):bC2 Tryz.prog 27 tabs [p.cv] (fun u v=>u= .slc ((tO p).map dM)∧v= .int .i64 (yU p)):=by
 refine cI (args:=[.c p.cv]) Tryz.func27 rfl (by kernel_rfl) (gB tabs [p.cv]) (Nat.le_of_ble_eq_true rfl) ?_;unfold fM;refine R0 ?_;refine aB fun K hK=>?_;refine aB fun K hK=>Rg ?_;refine S0 ?_;refine HS rfl rfl fun K' hK'=>T5 ?_;refine C1 (tV p hp) ?_;rintro u rfl;refine AX (hK' _ _ ?_);clear hK' K';refine S0 ?_;refine T2 (hK _ _ _ ?_);clear hK K;refine aG (b:=!eY p) rfl (fun hb=>?_) (fun hb=>?_)
 ·
  refine R0 ?_;refine aE (RT Tryz.results27 ?_);have hv:eY p=false:=by simpa using hb
  refine uM [] (.slc []) (.int .i64 1) ?_ rfl (by simp) ⟨by rw[tO,hv];rfl,by rw[yU,hv];rfl⟩;simp[HV.close,HV.closeL,CV.denil,CV.denilL,HV.norm,HV.toC,HV.toCL]
 refine aJ ?_;refine T0 (hK _ _ _ ?_);clear hK K;have hv:eY p=true:=by simpa using hb
 clear hb;obtain⟨⟨v1,v2⟩,hr16,_,hrules⟩:=vO hv;refine aB fun K hK=>cY mixed [(0,[],[]),(1,[],[]),(2,[],[]),(3,[],[]),(4,[],[0,1]),(5,[],[]),(6,[],[]),(7,[],[])] [0,1,0,4,12,31,63,127] (by kernel_rfl) (by kernel_rfl) (by kernel_rfl) (by kernel_rfl) rfl (by kernel_rfl) ?_;iterate 4 refine WG0 ?_
 refine bW (g:=none) rfl rfl fun K' hK'=>T5 ?_;refine fJ (args:=[_]) 0 (yF p.v ⟨by omega,by omega⟩) rfl (by simp) ⟨rfl,rfl,rfl,rfl⟩ ?_;rintro u rfl;refine AX (hK' _ _ ?_);clear hK' K';refine pN (g:=none) 45 rfl rfl fun K' hK'=>?_;simp only[iJ,lB,sH,↓sP,sA,tyS,simprocAttr];repeat refine AI ?_
 refine dT (by first|rfl|simp) ?_;try simp only[sH,↓sP,sA,tyS,simprocAttr]
 refine AX (hK' _ _ ?_);clear hK' K';iterate 2 refine WG0 ?_
 refine T2 (hK _ _ _ ?_);clear hK K;refine aB fun K hK=>?_;refine aB fun K hK=>Rg ?_;iterate 4 refine S0 ?_
 refine T2 (hK _ _ _ ?_);clear hK K;refine aN ?_;refine bS (α:={i:Nat//i≤p.r.length}) (fun i=>(fin [(4,.own 49 (qL p i.1).length),(18,.c (.slc (p.r.map Pr.cv))),(19,.c (.int .i64 p.r.length)),(20,.c (.int .i64 i.1))],fob [(0,.tab tabs),(49,.row 60 1 ((qL p i.1).map lsC))])) 2000 (fun i=>p.r.length-i.1) ⟨0,by omega⟩ (aL (by omega) (by simp[aY,fin_at,finA_at,upd_at,HV.men,HV.menL,HV.norm,HV.toC,HV.toCL,qL,lsC,wPolicy]) (by simp[aZ,fob_at,upd_at,none0_at,bV,HO.men,HV.men,HV.menL,HV.norm,HV.toC,HV.toCL,qL,lsC,wPolicy])) ?_;rintro⟨i,hi⟩;have hll:=aT1 hrules i hi;have hl0:0<(qL p i).length:=by simp[qL]
 refine R0 ?_;refine aB fun K hK=>?_;refine aG (b:=decide ((i:Int)<p.r.length)) rfl (fun hb=>?_) (fun hb=>?_)
 ·
  have hlt:i<p.r.length:=by simpa using hb
  clear hb;obtain⟨r,hr⟩: ∃r,r=p.r[i]:=⟨_,rfl⟩;have hrule:=hrules r (by rw[hr];exact List.getElem_mem hlt);obtain⟨⟨g1,g2⟩,ht,_⟩:=lS hrule;have ht0:0<r.t.length:=ht.ne;have htl:=ht.len;obtain⟨L,hL⟩: ∃L,L=qL p i:=⟨_,rfl⟩;rw[←hL]at hll hl0⊢;refine aJ ?_;refine T0 (hK _ _ _ ?_);clear hK K;refine aB fun K hK=>?_;refine aN ?_;refine aB fun K hK=>Rg ?_;iterate 4 refine S0 ?_ (e:=fun _ h_=>by simp only[sH,↓sP,sA,tyS,simprocAttr,Int.natCast_nonneg,Int.ofNat_lt,hlt,bR hlt,←hr];exact AX h_)
  refine T2 (hK _ _ _ ?_);clear hK K;refine aB fun K hK=>cY mixed [(0,[],[]),(1,[],[]),(2,[],[]),(3,[],[]),(4,[],[]),(5,[],[]),(6,[],[]),(7,[],[]),(8,[],[]),(9,[],[0,1,2,3,4,5,6]),(10,[],[]),(11,[],[]),(12,[],[]),(13,[],[])] [0,0,2,0,8,0,32,0,128,384,1022,2046,4095,8191] (by kernel_rfl) (by kernel_rfl) (by kernel_rfl) (by kernel_rfl) rfl (by kernel_rfl) ?_;iterate 9 refine WG0 ?_
  refine bW (g:=none) rfl rfl fun K' hK'=>T5 ?_;refine fJ (args:=[_]) 0 (yF r.g ⟨by omega,by omega⟩) rfl (by simp) ⟨rfl,rfl,rfl,rfl⟩ ?_;rintro u rfl;refine AX (hK' _ _ ?_);clear hK' K';refine pN (g:=none) 2060 rfl rfl fun K' hK'=>?_;simp only[iJ,lB,sH,↓sP,sA,tyS,simprocAttr];repeat refine AI ?_
  refine dT (by first|rfl|simp) ?_;try simp only[sH,↓sP,sA,tyS,simprocAttr]
  refine AX (hK' _ _ ?_);clear hK' K';iterate 3 refine WG0 ?_
  refine T2 (hK _ _ _ ?_);clear hK K;obtain⟨M,hM⟩: ∃M,M=L++[[wRule,r.a,r.b,r.c,numW r.g]]:=⟨_,rfl⟩;have hMm:List.map lsC L++[CV.slc [CV.str [114,117,108,101],CV.str r.a,CV.str r.b,CV.str r.c,CV.str (numW r.g)]]=List.map lsC M:=by rw[hM];simp[lsC,wRule]
  have hMl:L.length+1=M.length:=by rw[hM];simp
  rw[hMm];simp only[List.length_map];refine Rg ?_;iterate 3 refine S0 ?_
  refine HS rfl rfl fun K' hK'=>T5 ?_;refine fP [0,49] (bZ1 r.t ht r.t.length M 0 ht0 (by omega) (by rw[hM];simp) (by rw[hM];simp;omega)) rfl ⟨rfl,rfl,trivial⟩ (by simp) (by simp) ⟨rfl,rfl,rfl,rfl⟩ (by simp[eU,HO.men,HV.men,HV.menL]) (by simp[HV.menL,HV.men]) ?_;rintro q os' ⟨rfl,rfl⟩;rw[aZ5,aD8];refine AX (hK' _ _ ?_);clear hK' K';iterate 4 refine S0 ?_
  refine T2 (hK _ _ _ ?_);clear hK K;refine aK (by kernel_rfl) ?_;refine TQ (IntWalk.i64_in ((i:Int)+1) (by omega)) ?_;refine⟨⟨i+1,hlt⟩,?_,?_⟩
  ·
   have e1:M++kH r.t 0=qL p (i+1):=by rw[aD6 hlt,hM,hL,yD,←hr];simp[kG]
   rw[e1];exact fF
  show p.r.length-(i+1)<p.r.length-i;omega
 refine bI (T3 ?_);clear hK K;refine AX (hK _ _ _ ?_);clear hK K;have hei:i=p.r.length:=by simp at hb;omega
 subst hei;clear hb;rw[aT0];refine dF [49] (bH (fr2:=fin [(4,.c (.slc ((qB p).map lsC)))]) (ob2:=fob [(0,.tab tabs)]) (nx2:=3000) (aL (by omega) (by simp[aY,eB,fin_at,finA_at,upd_at,fob_at,HV.close,HV.closeL,CV.denil,CV.denilL,aT,HV.men,HV.menL,HV.norm,HV.toC,HV.toCL]) (by simp[aZ,eC,fob_at,upd_at,none0_at,bV,HO.close,HV.close,HV.closeL,HO.men,HV.men,HV.menL,HV.norm,HV.toC,HV.toCL])) ?_);rw[aT0]at hll;refine aB fun K hK=>Rg ?_;have F:=@aT;refine SF ?_;refine HS rfl rfl fun K' hK'=>T6 ?_;refine D1 (bZ2 (qB p) (by omega) (cF8 p)) ?_;rintro u v ⟨rfl,rfl⟩;refine AX (hK' _ _ ?_);clear hK' K';iterate 4 refine SF ?_
 refine T2 (hK _ _ _ ?_);clear hK K;refine aE (RT Tryz.results27 ?_);exact uM [] (.slc ((mG (qB p)).map dM)) (.int .i64 (iB (qB p))) (by simp[HV.close,HV.closeL,CV.denil,CV.denilL,dK,HV.norm,HV.toC,HV.toCL]) rfl (by simp) ⟨by rw[tO,if_pos hv],by rw[yU,if_pos hv]⟩
end Go.Proofs.YtlldglbooaefhaaGreatDoor
namespace Go.Hl
open Go
def bF2 (P:Program)(f:FuncId)(T:lE)(args:List CV)(R:CV→CV→CV→Prop):Prop:=
 HFn P f (args.map .c) 1 (fM T) (fun r ob'=> ∃u v x,r= .tup [.c u,.c v,.c x]∧ob'=fM T∧R u v x)
variable {R:CV→CV→CV→Prop}{T:lE}{ob:Ob}
theorem jA {r:HV}(cl:List Nat)(u v x:CV)(h:(r.close ob cl).norm= .tup [.c u,.c v,.c x])(hb:ob 0=some (.tab T))(h0:0∉cl)(hR:R u v x):
  mB 1 r ob (fun r ob'=> ∃u v x,r= .tup [.c u,.c v,.c x]∧ob'=fM T∧R u v x):=
 ⟨cl,id,.tup [.c u,.c v,.c x],fM T,⟨u,v,x,rfl,rfl,hR⟩,by grind[HV.ren,HV.renL],fun _ _=>rfl,fun _ _ _ _ h=>h,by simp[HV.men,HV.menL],aW2 hb h0⟩
theorem uU {P:Program}{av:List Nat}{f:FuncId}{nid:Nat}{K:HV→Ob→Prop}{args:List CV}(id:Nat)(h:bF2 P f T args R)(hid:ob id=some (.tab T))(hav:id∉av)
  (hfree:ob nid=none∧ob (nid+1)=none∧ob (nid+2)=none∧ob (nid+3)=none) (hK: ∀u v x,R u v x→K (.tup [.c u,.c v,.c x]) ob):HCall P av f (args.map .c) ob nid K:=by
 refine⟨[id],args.map .c,_,_,h,gB T args,⟨by simp,by grind⟩,(HV.renL_c _ _).symm,tG hid,fun r lob' hR _=>?_⟩;obtain⟨u,v,x,rfl,rfl,hR⟩:=hR;rw[nR hid hfree];exact hK u v x hR
end Go.Hl
namespace Go.Proofs.YtlldglbooaefhaaGreatDoor
open Go Go.Hl Go.Pl
set_option maxRecDepth 10000
set_option maxHeartbeats 16000000
theorem cG3 (b:aF):LsB (decO b):=fun l hl w hw=>by
 have:=(aG9 (b:=b) l hl).2.2 w hw;omega
theorem bM4 (a b:aF):cG Tryz.prog 64 [.slc (a.map dM),.slc (b.map dM)] (fun v=>v= .bool (a==b)):=by
 refine FW Tryz.func64 ?_;refine R0 ?_;refine aB fun K hK=>Rg ?_;have F:=@bytesC_map;iterate 6 refine SF ?_
 refine T2 (hK _ _ _ ?_);clear hK K;refine aE (RT Tryz.results64 ?_);exact aH [] (.bool (a==b)) rfl rfl
theorem bF3 (b:aF)(hl:b.length<2^40):bF2 Tryz.prog 32 tabs [.slc (b.map u8)] (fun u v x=>u=(dpO b).cv∧v= .int .i64 (dpL b:Nat)∧x= .int .i64 (dpE b)):=by
 refine cI (args:=[.c (.slc (b.map u8))]) Tryz.func32 rfl (by kernel_rfl) (gB tabs [.slc (b.map u8)]) (Nat.le_of_ble_eq_true rfl) ?_;unfold fM;have hlen:=aP9 (b:=b);refine R0 ?_;refine aB fun K hK=>Rg ?_;have F:=@denilL_u8;refine SF ?_;refine HS rfl rfl fun K' hK'=>T6 ?_;refine D1 (cL1 b hl) ?_;rintro u v ⟨rfl,rfl⟩;refine AX (hK' _ _ ?_);clear hK' K';iterate 5 refine SF ?_
 refine T2 (hK _ _ _ ?_);clear hK K;refine aB fun K hK=>?_;refine R0 ?_;refine aG (b:=!(eL b==0)) rfl (fun hb=>?_) (fun hb=>?_)
 ·
  have he:eL b≠0:=by simpa using hb
  have e1:dpE b=eL b:=by rw[dpE,if_pos he]
  have e2:dpL b=0:=by rw[dpL,if_pos he]
  have e3:dpO b=po0:=by rw[dpO,e1,if_neg he]
  clear hb;refine aB fun K hK=>Rg ?_;iterate 5 refine S0 ?_
  refine T2 (hK _ _ _ ?_);clear hK K;refine aE (RT Tryz.results32 ?_);exact jA [] po0.cv (.int .i64 0) (.int .i64 (eL b)) (by simp[HV.close,HV.closeL,po0,Po.cv,CV.denil,CV.denilL,HV.norm,HV.toC,HV.toCL]) rfl (by simp) (by rw[e1,e2,e3];exact⟨rfl,rfl,rfl⟩)
 refine aJ ?_;refine T0 (hK _ _ _ ?_);clear hK K;have he:eL b=0:=by simpa using hb
 clear hb;refine aB fun K hK=>Rg ?_;iterate 4 refine S0 ?_
 refine T2 (hK _ _ _ ?_);clear hK K;refine aB fun K hK=>Rg ?_;refine S0 ?_;refine HS rfl rfl fun K' hK'=>T5 ?_;refine eR (args:=[]) (bY9 (decO b) (by omega)) rfl (by simp) ⟨rfl,rfl,rfl,rfl⟩ ?_;rintro u x v' ⟨q,rfl,rfl,rfl,hq⟩;refine AX (hK' _ _ ?_);clear hK' K';iterate 5 refine S0 ?_
 refine T2 (hK _ _ _ ?_);clear hK K;refine aB fun K hK=>?_;refine R0 ?_;refine aG (b:=!(rdP (decO b)).1.isSome) rfl (fun hb=>?_) (fun hb=>?_)
 ·
  have hno:(rdP (decO b)).1=none:=by simpa using hb
  have e1:dpE b=2:=by rw[dpE,if_neg (by simpa using he),hno]
  have e2:dpL b=(decO b).length-(rdP (decO b)).2.length:=by
   rw[dpL,if_neg (by simpa using he)]
   match h:rdP (decO b)with
   |(none,r)=>rfl
   |(some p,r)=>rw[h]at hno;cases hno
  have e3:dpO b=po0:=by rw[dpO,e1,if_neg (by decide)]
  clear hb;refine aB fun K hK=>DW [(0,[],[]),(1,[],[]),(2,[],[]),(3,[],[]),(4,[],[]),(5,[],[1,2,3,4]),(6,[],[]),(7,[],[])] [0,0,2,6,14,1,63,127] ?_;iterate 8 refine W0 ?_ (e:=fun _ h_=>by simp only[sH,↓sP,sA,tyS,simprocAttr,rdr];exact AX h_)
  refine T2 (hK _ _ _ ?_);clear hK K;refine aE (RT Tryz.results32 ?_);exact jA [] po0.cv (.int .i64 ((decO b).length-(rdP (decO b)).2.length:Nat)) (.int .i64 2) (by simp[HV.close,HV.closeL,po0,Po.cv,CV.denil,CV.denilL,HV.norm,HV.toC,HV.toCL]) rfl (by simp) (by rw[e1,e2,e3];exact⟨rfl,rfl,rfl⟩)
 refine aJ ?_;refine T0 (hK _ _ _ ?_);clear hK K;refine aB fun K hK=>?_;obtain⟨p,hp⟩: ∃p,(rdP (decO b)).1=some p:=by
  cases h:(rdP (decO b)).1 with
  |none=>rw[h]at hb;simp at hb
  |some p=>exact⟨p,rfl⟩
 obtain rfl:=hq p hp;have hsz:=cI2 (cG3 b) (by omega) hp;have hr:rdP (decO b)=(some q,(rdP (decO b)).2):=Prod.ext hp rfl;have hiff:=cK4 he hr;have e1:dpE b=if eY q then 0 else 1:=by rw[dpE,if_neg (by simpa using he),hp]
 have e2:dpL b=0:=by rw[dpL,if_neg (by simpa using he),hr]
 clear hb;refine aB fun K hK=>Rg ?_;refine S0 ?_;refine HS rfl rfl fun K' hK'=>T5 ?_;refine uN (args:=[_]) 0 (bF1 q hsz) rfl (by simp) ⟨rfl,rfl,rfl,rfl⟩ ?_;rintro u v ⟨rfl,rfl⟩;refine AX (hK' _ _ ?_);clear hK' K';iterate 5 refine S0 ?_
 refine T2 (hK _ _ _ ?_);clear hK K;refine aB fun K hK=>Rg ?_;have F:=aI @dK @denilL_u8;iterate 3 refine SF ?_
 refine aD 40 rfl (fun h9_40=>?_) (fun h9_40=>?_)
 ·
  have F:=aI @dK (aI @denilL_u8 h9_40);iterate 5 refine SF ?_
  refine T2 (hK _ _ _ ?_);clear hK K;refine CT rfl ?_;refine aB fun K hK=>Rg ?_;have F:=h9_40;iterate 4 refine SF ?_
  refine T2 (hK _ _ _ ?_);clear hK K;refine aE (RT Tryz.results32 ?_);have hpo:eY q=false:=by
   cases h:eY q with
   |false=>rfl
   |true=>exact absurd (hiff.2 h).1 (by simpa using h9_40)
  rw[hpo]at e1;have e1:dpE b=1:=e1;have e3:dpO b=po0:=by rw[dpO,e1,if_neg (by decide)]
  exact jA [] po0.cv (.int .i64 0) (.int .i64 1) (by simp[HV.close,HV.closeL,po0,Po.cv,CV.denil,CV.denilL,HV.norm,HV.toC,HV.toCL]) rfl (by simp) (by rw[e1,e2,e3];exact⟨rfl,rfl,rfl⟩)
 have F:=aI @dK (aI @denilL_u8 h9_40);iterate 2 refine SF ?_
 refine aP (g:=some (41,false)) rfl rfl fun K' hK'=>T6 ?_;refine C2 (bM4 (tO q) b) ?_;rintro u rfl;refine AX (hK' _ _ ?_);clear hK' K';iterate 2 refine SF ?_
 refine aD 44 rfl (fun h9_44=>?_) (fun h9_44=>?_)
 ·
  simp only[h9_44];refine T2 (hK _ _ _ ?_);clear hK K;refine CF rfl ?_;refine aJ ?_;refine T0 (hK _ _ _ ?_);clear hK K;refine aB fun K hK=>Rg ?_;have F:=aI h9_40 h9_44;iterate 4 refine SF ?_
  refine T2 (hK _ _ _ ?_);clear hK K;refine aE (RT Tryz.results32 ?_);have hpo:eY q=true:=hiff.1 ⟨by simpa using h9_40,by simpa using h9_44⟩;rw[hpo]at e1;have e1:dpE b=0:=e1;have e3:dpO b=q:=by rw[dpO,if_pos e1,hp];rfl
  exact jA [] q.cv (.int .i64 0) (.int .i64 0) (by simp[HV.close,HV.closeL,Po.denil,CV.denil,CV.denilL,HV.norm,HV.toC,HV.toCL]) rfl (by simp) (by rw[e1,e2,e3];exact⟨rfl,rfl,rfl⟩)
 simp only[h9_44];refine T2 (hK _ _ _ ?_);clear hK K;refine CT rfl ?_;refine aB fun K hK=>Rg ?_;have F:=aI h9_40 h9_44;iterate 4 refine SF ?_
 refine T2 (hK _ _ _ ?_);clear hK K;refine aE (RT Tryz.results32 ?_);have hpo:eY q=false:=by
  cases h:eY q with
  |false=>rfl
  |true=>exact absurd (hiff.2 h).2 (by simpa using h9_44)
 rw[hpo]at e1;have e1:dpE b=1:=e1;have e3:dpO b=po0:=by rw[dpO,e1,if_neg (by decide)]
 exact jA [] po0.cv (.int .i64 0) (.int .i64 1) (by simp[HV.close,HV.closeL,po0,Po.cv,CV.denil,CV.denilL,HV.norm,HV.toC,HV.toCL]) rfl (by simp) (by rw[e1,e2,e3];exact⟨rfl,rfl,rfl⟩)
theorem cG4 (ns im:aF)(r:Pr):cG Tryz.prog 71 [r.cv,.rp (.str ns),.rp (.str im)] (fun v=>v= .bool (aC2 ns im r)):=by
 refine FW Tryz.func71 ?_;refine R0 ?_;refine aB fun K hK=>Rg ?_;iterate 3 refine S0 ?_
 refine HS rfl rfl fun K' hK'=>T5 ?_;refine C2 (aR3 r.b ns) ?_;rintro u rfl;refine AX (hK' _ _ ?_);clear hK' K';refine S0 ?_;refine aD 8 rfl (fun h1_8=>?_) (fun h1_8=>?_)
 ·
  have F:=h1_8;iterate 3 refine SF ?_
  refine aP (g:=some (9,true)) rfl rfl fun K' hK'=>T6 ?_;refine C2 (aR3 r.c im) ?_;rintro u rfl;refine AX (hK' _ _ ?_);clear hK' K';iterate 2 refine SF ?_
  refine T2 (hK _ _ _ ?_);clear hK K;refine aE (RT Tryz.results71 ?_);exact aH [] (.bool _) rfl (by simp only[aC2,h1_8,Bool.and_true,Bool.and_false,Bool.true_and,Bool.false_and])
 have F:=h1_8;iterate 6 refine SF ?_
 refine T2 (hK _ _ _ ?_);clear hK K;refine aE (RT Tryz.results71 ?_);exact aH [] (.bool _) rfl (by simp only[aC2,h1_8,Bool.and_true,Bool.and_false,Bool.true_and,Bool.false_and])
def bM5 (l:List Pr)(p:Pr→Bool):Int:=match l.findIdx? p with|some i=>(i:Int)|none=> -1
variable {p:Pr→Bool}{l:List Pr}
theorem bZ3 {i:Nat}(hi:i<l.length)(h:p l[i]=true)(h0: ∀j (hj:j<i),p (l[j]'(by omega))=false):bM5 l p=i:=by
 have:l.findIdx? p=some i:=by
  rw[List.findIdx?_eq_some_iff_getElem];exact⟨hi,h,fun j hj=>by rw[h0 j hj];simp⟩
 rw[bM5,this]
theorem bM6 (h0: ∀j (hj:j<l.length),p l[j]=false):bM5 l p= -1:=by
 have:l.findIdx? p=none:=by
  rw[List.findIdx?_eq_none_iff];intro r hr;obtain⟨j,hj,rfl⟩:=List.getElem_of_mem hr;exact h0 j hj
 rw[bM5,this]
theorem cG5 (l:List Pr)(g:FuncId)(caps:List CV)(p:Pr→Bool)(hl:l.length<2^40)(hp: ∀r∈l,cG Tryz.prog g (r.cv::caps) (fun v=>v= .bool (p r))):
  bO8 Tryz.prog 70 [.c (.slc (l.map Pr.cv)),.clo g (caps.map .c)] (fun v=>v= .int .i64 (bM5 l p)):=by
 refine cI Tryz.func70 rfl (by kernel_rfl) (bA9 (by simp[HV.menL,HV.men,HV.menL_c])) (Nat.le_of_ble_eq_true rfl) ?_;refine R0 ?_;refine aB fun K hK=>?_;refine R0 ?_;refine aN ?_;refine bS (α:={i:Nat//i≤l.length∧ ∀j (hj:j<i) (h:j<l.length),p l[j]=false}) (fun i=>(fin [(0,.c (.slc (l.map Pr.cv))),(1,.clo g (caps.map .c)),(7,.c (.int .i64 l.length)),(8,.c (.int .i64 i.1))],fob [])) 100 (fun i=>l.length-i.1) ⟨0,by omega,fun j hj=>by omega⟩ (aL (by omega) (by simp[aY,fin_at,finA_at,upd_at,HV.men,HV.menL,HV.norm,HV.toC,HV.toCL,HV.menL_c]) (by simp[aZ])) ?_;rintro⟨i,hi,h0⟩;refine R0 ?_;refine aB fun K hK=>?_;refine aG (b:=decide ((i:Int)<l.length)) rfl (fun hb=>?_) (fun hb=>?_)
 ·
  have hlt:i<l.length:=by simpa using hb
  clear hb;refine aJ ?_;refine T0 (hK _ _ _ ?_);clear hK K;refine aB fun K hK=>?_;refine aN ?_;refine R0 ?_;refine aB fun K hK=>Rg ?_;have F:=aI @Int.natCast_nonneg (aI @Int.ofNat_lt (aI hlt (nM hlt)));iterate 5 refine SF ?_
  refine HS rfl rfl fun K' hK'=>T6 ?_;refine lK (args:=l[i].cv::caps) (hp _ (List.getElem_mem hlt)) ⟨rfl,rfl,rfl,rfl⟩ ?_;rintro u rfl;refine AX (hK' _ _ ?_);clear hK' K';refine T2 (hK _ _ _ ?_);clear hK K;refine aG (b:=p l[i]) rfl (fun hb=>?_) (fun hb=>?_)
  · refine R0 ?_;refine aE (RT Tryz.results70 ?_);exact aH [] (.int .i64 i) rfl (by rw[bZ3 hlt hb fun j hj=>h0 j hj (by omega)])
  refine aJ ?_;refine T0 (hK _ _ _ ?_);clear hK K;refine aK (by kernel_rfl) ?_;refine TQ (IntWalk.i64_in ((i:Int)+1) (by omega)) ?_;refine⟨⟨i+1,hlt,fun j hj h=>?_⟩,aL (by omega) (by simp[aY,fin_at,finA_at,upd_at,HV.men,HV.menL,HV.norm,HV.toC,HV.toCL,HV.menL_c]) (by simp[aZ]),?_⟩
  ·
   rcases Nat.lt_or_ge j i with h1|h1
   · exact h0 j h1 h
   obtain rfl:j=i:=by omega
   exact hb
  show l.length-(i+1)<l.length-i;omega
 refine bI (T3 ?_);clear hK K;refine AX (hK _ _ _ ?_);clear hK K;refine R0 ?_;refine aE (RT Tryz.results70 ?_);have hei:i=l.length:=by simp at hb;omega
 subst hei;exact aH [] (.int .i64 (-1)) rfl (by rw[bM6 fun j hj=>h0 j hj hj])
theorem cG6 (p:Po)(hp:PoSz p)(ns im:aF):cG Tryz.prog 39 [p.cv,.str ns,.str im] (fun v=>v= .int .i64 (bU1 p ns im)):=by
 refine FW Tryz.func39 ?_;refine aB fun K hK=>Rg ?_;iterate 4 refine S0 ?_
 refine T2 (hK _ _ _ ?_);clear hK K;refine aB fun K hK=>?_;refine aB fun K hK=>Rg ?_;refine S0 ?_;refine HS rfl rfl fun K' hK'=>T5 ?_;refine C1 (tV p hp) ?_;rintro u rfl;refine AX (hK' _ _ ?_);clear hK' K';refine S0 ?_;refine T2 (hK _ _ _ ?_);clear hK K;refine aG (b:=!eY p) rfl (fun hb=>?_) (fun hb=>?_)
 · refine R0 ?_;refine aE (RT Tryz.results39 ?_);exact aH [] (.int .i64 (-1)) rfl (by rw[bU2 (by simpa using hb)])
 refine aJ ?_;refine T0 (hK _ _ _ ?_);clear hK K;have hv:eY p=true:=by simpa using hb
 clear hb;refine zS 4 4 rfl rfl ?_;refine zS 5 8 rfl rfl ?_;refine aB fun K hK=>Rg ?_;have F:=aI @cA8 @upd_at;iterate 3 refine SF ?_
 refine HS rfl rfl fun K' hK'=>T6 ?_;refine aV2 (cG5 p.r 71 [.rp (.str ns),.rp (.str im)] (aC2 ns im) hp.r fun r _=>cG4 ns im r) (by simp[HV.menL,HV.men]) (fun m=>by simp[HV.renL,HV.ren]) ⟨rfl,rfl,rfl,rfl⟩ ?_;rintro u rfl;refine AX (hK' _ _ ?_);clear hK' K';refine SF ?_;refine T2 (hK _ _ _ ?_);clear hK K;refine aE (RT Tryz.results39 ?_);exact aH [] (.int .i64 (bM5 p.r (aC2 ns im))) rfl (by rw[bU1,if_pos hv];rfl)
theorem aJ0 (n:Int):cG Tryz.prog 49 [.int .i64 n] (fun v=>v=(aQ5 n).cv):=by
 refine FW Tryz.func49 ?_;refine R0 ?_;refine aB fun K hK=>Rg ?_;iterate 4 refine S0 ?_
 refine T2 (hK _ _ _ ?_);clear hK K;refine aE (RT Tryz.results49 ?_);exact aH [] (aQ5 n).cv rfl rfl
theorem bZ4 :PoSz awP:=⟨by decide,by decide,by decide,by decide⟩
theorem bZ5 : ∀n∈awT,n.q.t.length<2^63:=by decide
theorem bZ6 :yU awP=0:=by decide+kernel
theorem cM0 :(tO awP).length<2^40:=by decide+kernel
theorem aT6 :mM Tryz.prog 22 tabs [] (fun v=>v= .bool true):=by
 refine cI (args:=[]) Tryz.func22 rfl (by kernel_rfl) (gB tabs []) (Nat.le_of_ble_eq_true rfl) ?_;unfold fM;obtain⟨aw1,aw2,aw3⟩:=bJ7 bZ6;refine R0 ?_;refine aB fun K hK=>bX (by kernel_rfl) ?_;simp only[sR,simprocAttr];refine SG0 ?_;refine bZ (g:=none) rfl rfl fun K' hK'=>T5 ?_;refine C1 (aJ0 1) ?_;rintro u rfl;refine AX (hK' _ _ ?_);clear hK' K';refine bZ (g:=none) rfl rfl fun K' hK'=>T5 ?_;refine C1 (aJ0 2) ?_;rintro u rfl;refine AX (hK' _ _ ?_);clear hK' K';refine bZ (g:=none) rfl rfl fun K' hK'=>T5 ?_;refine C1 (aJ0 3) ?_;rintro u rfl;refine AX (hK' _ _ ?_);clear hK' K';refine dJ (g:=none) 21 rfl rfl fun K' hK'=>?_;simp only[iJ,lB,sH,↓sP,sA,tyS,simprocAttr];repeat refine AI ?_
 refine dT (by first|rfl|simp) ?_;try simp only[sH,↓sP,sA,tyS,simprocAttr]
 refine AX (hK' _ _ ?_);clear hK' K';refine SG0 ?_;refine T2 (hK _ _ _ ?_);clear hK K;refine aB fun K hK=>bX (by kernel_rfl) ?_;simp only[sR,simprocAttr];iterate 2 refine SG0 ?_
 refine dJ (g:=none) 37 rfl rfl fun K' hK'=>?_;simp only[iJ,lB,sH,↓sP,sA,tyS,simprocAttr];repeat refine AI ?_
 refine dT (by first|rfl|simp) ?_;try simp only[sH,↓sP,sA,tyS,simprocAttr]
 refine AX (hK' _ _ ?_);clear hK' K';iterate 3 refine SG0 ?_
 refine T2 (hK _ _ _ ?_);clear hK K;refine aB fun K hK=>Rg ?_;refine S0 ?_;refine HS rfl rfl fun K' hK'=>T5 ?_;refine uN (args:=[_]) 0 (bF1 awP bZ4) rfl (by simp) ⟨rfl,rfl,rfl,rfl⟩ ?_;rintro u v ⟨rfl,rfl⟩;rw[bZ6];refine AX (hK' _ _ ?_);clear hK' K';iterate 5 refine S0 ?_
 refine T2 (hK _ _ _ ?_);clear hK K;refine aB fun K hK=>Rg ?_;have F:=@dK;refine SF ?_;refine HS rfl rfl fun K' hK'=>T6 ?_;refine uU (args:=[_]) 0 (bF3 (tO awP) cM0) rfl (by simp) ⟨rfl,rfl,rfl,rfl⟩ ?_;rintro u v x ⟨rfl,rfl,rfl⟩;rw[aw1,aw2,aw3];refine AX (hK' _ _ ?_);clear hK' K';iterate 8 refine SF ?_
 refine T2 (hK _ _ _ ?_);clear hK K;refine aB fun K hK=>bX (by kernel_rfl) ?_;simp only[sR,simprocAttr];have F:=aI @List.length_map.{0,0} (aI @lT (aI @rX (show awP.r.length=1 from rfl)));refine SGF ?_;refine bZ (g:=none) rfl rfl fun K' hK'=>T6 ?_;refine C1 (vR awT bZ5) ?_;rintro u rfl;rw[cK5];refine AX (hK' _ _ ?_);clear hK' K';iterate 2 refine SGF ?_
 refine bZ (g:=some (30,true)) rfl rfl fun K' hK'=>T6 ?_;refine C1 (tV awP bZ4) ?_;rintro u rfl;rw[cK6];refine AX (hK' _ _ ?_);clear hK' K';iterate 17 refine SGF ?_
 refine dJ (g:=some (48,true)) 209 rfl rfl fun K' hK'=>?_;simp only[iJ,lB,sH,↓sP,sA,tyS,simprocAttr,List.length_map,lT,rX,(show awP.r.length=1 from rfl)];repeat refine AI ?_
 refine dT (by first|rfl|simp) ?_;try simp only[sH,↓sP,sA,tyS,simprocAttr,List.length_map,lT,rX,(show awP.r.length=1 from rfl)]
 refine AX (hK' _ _ ?_);clear hK' K';refine bZ (g:=some (48,true)) rfl rfl fun K' hK'=>T6 ?_;refine C2 (bE5 awT bZ5 [true,false,true] (by decide)) ?_;rintro u rfl;rw[bU3];refine AX (hK' _ _ ?_);clear hK' K';iterate 3 refine SGF ?_
 refine dJ (g:=some (53,true)) 229 rfl rfl fun K' hK'=>?_;simp only[iJ,lB,sH,↓sP,sA,tyS,simprocAttr,List.length_map,lT,rX,(show awP.r.length=1 from rfl)];repeat refine AI ?_
 refine dT (by first|rfl|simp) ?_;try simp only[sH,↓sP,sA,tyS,simprocAttr,List.length_map,lT,rX,(show awP.r.length=1 from rfl)]
 refine AX (hK' _ _ ?_);clear hK' K';refine bZ (g:=some (53,true)) rfl rfl fun K' hK'=>T6 ?_;refine C2 (bE5 awT bZ5 [true] (by decide)) ?_;rintro u rfl;rw[bU4];refine AX (hK' _ _ ?_);clear hK' K';iterate 4 refine SGF ?_
 refine bZ (g:=some (59,true)) rfl rfl fun K' hK'=>T6 ?_;refine C3 (cG6 awP bZ4 [112,114,111,100,47,101,117] [119,101,98]) ?_;rintro u rfl;rw[cK7];refine AX (hK' _ _ ?_);clear hK' K';iterate 4 refine SGF ?_
 refine bZ (g:=some (64,true)) rfl rfl fun K' hK'=>T6 ?_;refine C1 (aC8 awT bZ5) ?_;rintro u rfl;refine AX (hK' _ _ ?_);clear hK' K';iterate 5 refine SGF ?_
 refine bZ (g:=some (70,true)) rfl rfl fun K' hK'=>T6 ?_;refine C2 (aR6 awT bZ5 0) ?_;rintro u rfl;refine AX (hK' _ _ ?_);clear hK' K';iterate 4 refine SGF ?_
 refine T2 (hK _ _ _ ?_);clear hK K;refine aE (RT Tryz.results22 ?_);exact dX [] (.bool true) rfl rfl (by simp) rfl
def tp (L:List Int)(a:Nat):CV:= .agg [.slc (L.map (.int .i64)),.int .i64 a]
attribute [local simp] tp
theorem mT (L:List Int)(a:Nat)(n:Int)(ha:a<2^40)(hn:n<2^62):bO9 Tryz.prog 36 83 (tp L a) [.int .i64 n] (fun u v'=> ∃(x:Int) (a':Nat),u= .int .i64 x∧v'=tp L a'∧a'≤a+1∧0≤x∧(n<1→x=0)∧(1≤n→x<n)):=by
 refine cI Tryz.func36 rfl (by kernel_rfl) (eI _ _ _) (Nat.le_of_ble_eq_true rfl) ?_;refine R0 ?_;refine aB fun K hK=>?_;refine R0 ?_;refine aG (b:=decide (n<1)) rfl (fun hb=>?_) (fun hb=>?_)
 · refine R0 ?_;refine aE (RT Tryz.results36 ?_);refine iD [] (.int .i64 0) (tp L a) rfl rfl ?_ (by simp) ⟨0,a,rfl,rfl,by omega,by omega,fun _=>rfl,fun h=>by omega⟩;simp[HV.close,tp,CV.denil,CV.denilL,denilL_int,HV.norm,HV.toC]
 refine aJ ?_;refine T0 (hK _ _ _ ?_);clear hK K;refine aB fun K hK=>Rg ?_;iterate 7 refine S0 ?_ (e:=fun _ h_=>by simp only[sH,↓sP,sA,tyS,simprocAttr,tp];exact AX h_)
 refine T2 (hK _ _ _ ?_);clear hK K;refine aB fun K hK=>?_;have key: ∀(v:Int) fr ob nx,Fits 1 fr ob (fin [(0,.ptr 0 0),(1,.c (.int .i64 n)),(5,.c (.int .i64 v))]) (fob [(0,.box 83 (.c (tp L a)))]) 300→K fr ob nx:=by
  intro v fr ob nx hf;refine hK _ _ _ (bH hf ?_);clear hf hK K;have hn1:1≤n:=by simp at hb;omega
  have e0:=Int.tmod_lt_of_pos v (b:=n) (by omega);have e1: -n<v.tmod n:=Int.lt_tmod_of_pos v (by omega);refine aB fun K hK=>Rg ?_;iterate 8 refine S0 ?_ (e:=fun _ h_=>by simp only[sH,↓sP,sA,tyS,simprocAttr,tp];exact AX h_)
  refine T2 (hK _ _ _ ?_);clear hK K;refine aB fun K hK=>Rg ?_;iterate 8 refine S0 ?_ (e:=fun _ h_=>by simp only[sH,↓sP,sA,tyS,simprocAttr,tp];exact AX h_)
  refine T2 (hK _ _ _ ?_);clear hK K;refine aE (RT Tryz.results36 ?_);have e2:IntKind.i64.wrap (v.tmod n+n)=v.tmod n+n:=IntWalk.i64_in _ (by omega);have e3:IntKind.i64.wrap ((a:Int)+1)=((a+1:Nat):Int):=IntWalk.i64_in _ (by omega);refine iD [] (.int .i64 ((v.tmod n+n).tmod n)) (tp L (a+1)) (by rw[e2];rfl) rfl ?_ (by simp) ⟨_,a+1,rfl,rfl,by omega,Int.tmod_nonneg _ (by omega),fun h=>by omega,fun _=>Int.tmod_lt_of_pos _ (by omega)⟩;simp[HV.close,HV.closeL,tp,CV.denil,CV.denilL,denilL_int,HV.norm,HV.toC,HV.toCL,e3]
 refine aB fun K hK=>QR ?_;iterate 10 refine S0 ?_ (e:=fun _ h_=>by simp only[sH,↓sP,sA,tyS,simprocAttr,tp];exact AX h_)
 refine T2 (hK _ _ _ ?_);clear hK K;refine aG (b:=decide ((a:Int)<L.length)) rfl (fun hb=>?_) (fun hb=>?_)
 ·
  refine QW ?_;simp only[sR,simprocAttr];iterate 11 refine S0 ?_ (e:=fun _ h_=>by simp only[sH,↓sP,sA,tyS,simprocAttr,tp,Int.natCast_nonneg,(by simpa using hb:(a:Int)<L.length),bR (show a<L.length by simpa using hb)];exact AX h_)
  refine T4 ?_;exact key (L[a]'(by simpa using hb)) _ _ _ (fF)
 refine aJ (T3 ?_);exact key (IntKind.i64.wrap (IntKind.i64.wrap (↑a*7)+3)) _ _ _ (fF)
theorem cG7 (L:List Int)(a:Nat)(l:List aF)(ha:a<2^40)(hl:1≤l.length∧l.length<2^40):bO9 Tryz.prog 35 83 (tp L a) [.slc (l.map .str)] (fun u v'=> ∃(w:aF) (a':Nat),u= .str w∧w∈l∧v'=tp L a'∧a'≤a+1):=by
 refine cI Tryz.func35 rfl (by kernel_rfl) (eI _ _ _) (Nat.le_of_ble_eq_true rfl) ?_;refine R0 ?_;refine aB fun K hK=>aK (by kernel_rfl) ?_;simp only[↓sP,sA,tyS,simprocAttr];refine dG (args:=[_]) (mT L a l.length ha (by omega)) rfl (by simp) ⟨rfl,rfl,rfl,rfl⟩ ?_;rintro u v' ⟨x,a',rfl,rfl,h1,h2,h3,h4⟩;obtain⟨i,rfl⟩: ∃i:Nat,x=i:=⟨x.toNat,by omega⟩;have hlt:i<l.length:=by omega
 simp only[↓sP,sA,tyS,simprocAttr,Int.natCast_nonneg,Int.ofNat_lt,hlt,bR hlt];refine AX (hK _ _ _ ?_);clear hK K;refine aE (RT Tryz.results35 ?_);exact iD [] (.str l[i]) (tp L a') rfl rfl (by simp[HV.close,HV.closeL,tp,CV.denil,CV.denilL,denilL_int,HV.norm,HV.toC,HV.toCL]) (by simp) ⟨_,a',rfl,List.getElem_mem _,rfl,h1⟩
theorem cG8 (L:List Int)(n:Nat):HGe Tryz.prog 24 [.c (.slc (L.map (.int .i64))),.c (.int .i64 n)] [] (fun r os'=>r= .ptr 0 0∧os'=[.box 83 (.c (tp (L.take n) 0))]):=by
 refine cI (args:=[.c (.slc (L.map (.int .i64))),.c (.int .i64 n)]) Tryz.func24 rfl (by kernel_rfl) (fZ rfl (by simp[eU]) (by simp[HV.menL,HV.men])) (Nat.le_of_ble_eq_true rfl) ?_;show Hw _ _ 0 _ _ _ (lst _) 0;rw[show lst []=fob []from by funext i;simp[lst,fob]];refine R0 ?_;refine aB fun K hK=>Rg ?_;have F:=@denilL_int;iterate 9 refine SF ?_
 refine T2 (hK _ _ _ ?_);clear hK K;refine aE (RT Tryz.results24 ?_);refine eO [] [32] (.ptr 0 0) [.box 83 (.c (tp (L.take n) 0))] rfl (by simp[HV.men]) ⟨⟨by simp[HO.men,HV.men],by simp,_,rfl,?_⟩,trivial⟩ rfl (by simp) (by simp) (by simp) ⟨rfl,rfl⟩;simp[HO.close,HV.close,HV.closeL,HO.ren,HV.ren,HV.renL,tau,CV.denil,CV.denilL,denilL_int,HV.norm,fI,upd_at,fob_at,HV.toC,HV.toCL,tp];have e:(if n<L.length then(n:Int)else(L.length:Int)).toNat=min n L.length:=by split<;>omega
 rw[e,←List.map_take,←List.map_take,denilL_int,←List.take_eq_take_min]
def ShN (T:List Nd):Prop:= ∀n∈T,n.q.t.length<2^63
theorem ShN.set {T:List Nd}(h:ShN T)(i:Nat){x:Nd}(hx:x.q.t.length<2^63):ShN (T.set i x):=fun n hn=>by
 rcases List.mem_or_eq_of_mem_set hn with h1|rfl
 · exact h n h1
 exact hx
theorem bZ7 (n:Nat):HV.ren (sub [] n) (.ptr 0 0)= .ptr n 0:=by simp[HV.ren,sub]
theorem bM7 (n:Nat)(ob:Ob)(t:TypeId)(v:CV):kD (sub [] n) ob 0 [.box t (.c v)]=upd ob n (some (.box t (.c v))):=by simp[kD,sub,HO.ren,HV.ren]
end Go.Proofs.YtlldglbooaefhaaGreatDoor
namespace Go.Pl
open Go Go.Hl
def rN (n:Nat):aF:=[114,UInt8.ofNat (48+n)]
structure MadeR (r:Pr):Prop where
 ok:jE r=true
 b:r.b.length≤80
 c:r.c.length≤80
 t:r.t.length≤40
structure MadeRs (n:Nat)(rs:List Pr):Prop where
 two:n+rs.length≤2
 one:1≤n+rs.length
 ok: ∀r∈rs,MadeR r
 nm: ∀r∈rs,∃j,n<j∧j≤2∧r.a=rN j
 ap:gV rs=true
variable {n:Nat}
theorem MadeRs.zero (h1:1≤n)(h2:n≤2):MadeRs n []:=⟨by grind,by grind,by simp,by simp,rfl⟩
variable {rs:List Pr}
theorem MadeRs.next (h:MadeRs (n+1) rs){r:Pr}(hr:MadeR r)(ha:r.a=rN (n+1)):MadeRs n (rs++[r]):=by
 have h1:=h.two;refine⟨by grind,by grind,fun x hx=>?_,fun x hx=>?_,?_⟩
 ·
  rcases List.mem_append.1 hx with hx|hx
  · exact h.ok x hx
  grind
 ·
  rcases List.mem_append.1 hx with hx|hx
  · obtain⟨j,h2,h3,h4⟩:=h.nm x hx;grind
  grind
 ·
  rw[nZ,h.ap,Bool.true_and,Bool.not_eq_true',←Bool.not_eq_true,List.contains_iff_mem];intro hm;obtain⟨x,hx,he⟩:=List.mem_map.1 hm;obtain⟨j,h2,h3,h4⟩:=h.nm x hx;rw[h4,ha]at he;have hj:j=2:=by omega
  have hn:n=0:=by omega
  subst hj hn
  revert he
  decide
theorem MadeRs.fin (h:MadeRs 0 rs){v:Int}(h1:1≤v)(h2:v≤1099511627776):bU0 ⟨[112],v,rs⟩:=by
 have h3:=h.two;have k:dU [112]=true:=by decide
 refine⟨?_,by grind,fun r hr=>⟨(h.ok r hr).b,(h.ok r hr).c,(h.ok r hr).t⟩⟩;have k1:inB v 1 vB=true:=by rw[iW,pC];exact⟨h1,h2⟩
 have k2:decide (rs.length≤16)=true:=by simp;omega
 have k3:rs.all jE=true:=List.all_eq_true.2 fun r hr=>(h.ok r hr).ok;simp only[eY,k,k1,k2,k3,h.ap,Bool.and_self]
theorem bZ8 {q:Rq}(h:fB q=true):q.t.length≤64:=by
 have hn:dU q.t=true→q.t.length≤64:=fun h=>(xT h).2;have h0:q.t=[]→q.t.length≤64:=fun h=>by grind
 unfold fB at h;grind
theorem bM8 {n:Nd}(h:cJ n=true):n.q.t.length≤64:=by
 have h0:n.q=rq0→n.q.t.length≤64:=fun h=>by rw[h];decide
 have h1:fB n.q=true→n.q.t.length≤64:=bZ8;unfold cJ at h
 repeat' split at h
 all_goals simp_all[Bool.and_eq_true,rA,beq_iff_eq]
theorem bM9 {t:List Nd}(h:IsTree t): ∀n∈t,n.q.t.length<2^63:=fun n hn=>by have:=bM8 (h.node n hn);omega
theorem cG9 {p:Po}(h:eY p=true):PoSz p:=by
 obtain⟨_,h2,h3,h4⟩:=vO h;refine⟨by grind[xT],by omega,fun r hr=>?_,fun r hr=>bM9 (lS (h4 r hr)).2.1⟩;have:=(xT (lS (h4 r hr)).2.2.1).2;omega
theorem MadeRs.sz (h:MadeRs 0 rs)(v:Int):PoSz ⟨[112],v,rs⟩:=by
 have:=cG9 (h.fin (v:=1) (by omega) (by omega)).1;exact⟨this.n,this.r,this.a,this.t⟩
theorem cM1 (b:aF):(dpO b).r.length<2^40∧ ∀r∈(dpO b).r,r.t.length<2^40:=by
 have key: ∀p:Po,eY p=true→p.r.length<2^40∧ ∀r∈p.r,r.t.length<2^40:=fun p hp=>by
  obtain⟨_,h2,_,h4⟩:=vO hp;exact⟨by omega,fun r hr=>by have:=(lS (h4 r hr)).2.1.len;omega⟩
 have h0:po0.r.length<2^40∧ ∀r∈po0.r,r.t.length<2^40:=⟨by decide,fun r hr=>by cases hr⟩;unfold dpO;split
 ·
  rename_i he;unfold dpE at he;split at he
  · omega
  ·
   revert he
   cases h:(rdP (decO b)).1 with
   |none=>intro he;cases he
   |some p=>
    simp only[Option.getD_some];split
    · intro _;exact key p (by assumption)
    · intro he;cases he
 · exact h0
end Go.Pl
namespace Go.Proofs.YtlldglbooaefhaaGreatDoor
open Go Go.Hl Go.Pl
set_option maxRecDepth 10000
set_option maxHeartbeats 16000000
theorem bN0 (ls:List (List aF))(h0:ls.length<2^40)(h1: ∀l∈ls,l.length<2^40):gT Tryz.prog 37 [.slc (ls.map lsC)] (fun u v=>u= .slc ((mG ls).map dM)∧v= .int .i64 (iB ls)):=bE4 ls h0 h1
end Go.Proofs.YtlldglbooaefhaaGreatDoor
