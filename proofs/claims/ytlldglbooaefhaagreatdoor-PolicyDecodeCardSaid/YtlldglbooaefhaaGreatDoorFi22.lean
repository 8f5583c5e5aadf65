/- PolicyDecode: for any bytes the law returns true and leaves them as they were: Decode answers as the reference's Decode does, the policy, the line and the error. The listed tables of the library are tied to the program's text by the card. By an AI agent. -/
import Derived.Test.YtlldglbooaefhaaGreatDoorHzU1
import Derived.Test.YtlldglbooaefhaaGreatDoorHzTt
import Derived.Test.YtlldglbooaefhaaGreatDoorHlTlaw
import Derived.Test.YtlldglbooaefhaaGreatDoorHzUj
import Derived.Test.YtlldglbooaefhaaGreatDoorPl03e
import Derived.Test.YtlldglbooaefhaaGreatDoorPl11w
import Derived.Test.YtlldglbooaefhaaGreatDoorPl28x
import Derived.Test.YtlldglbooaefhaaGreatDoorHzV4
import Derived.Test.YtlldglbooaefhaaGreatDoorHzTc
import Derived.Test.YtlldglbooaefhaaGreatDoorPl03c
import Derived.Test.YtlldglbooaefhaaGreatDoorHzUt
import Derived.Test.YtlldglbooaefhaaGreatDoorHzTn
import Derived.Lay
import Derived.SevenTiedAt
import Derived.Test.YtlldglbooaefhaaGreatDoorRows
import Derived.Test.YtlldglbooaefhaaGreatDoorCards
import Derived.Test.YtlldglbooaefhaaGreatDoorTie
set_option linter.unusedSimpArgs false
set_option linter.unusedVariables false
set_option linter.defProp false
namespace Go.Proofs.YtlldglbooaefhaaGreatDoor
open Go Go.Hl Go.Pl
set_option maxRecDepth 10000
set_option maxHeartbeats 16000000
theorem cP8 (L:List (List aF)):lst [.tab tabs,.row 60 1 (L.map lsC)]=fob [(0,.tab tabs),(1,.row 60 1 (L.map lsC))]:=by
 funext i
 match i with
 |0=>rfl
 |1=>rfl
 |i+2=>simp[lst,fob,upd]
theorem aZ2 (n:Nat)(ob:Ob)(e:TypeId)(sz:Nat)(T:lA)(L:List CV):kZ (sub [0,1] n) ob 0 [.tab T,.row e sz L]=upd (upd ob 0 (some (.tab T))) 1 (some (.row e sz L)):=rfl
theorem yF {ob:Ob}{L:List CV}{M:List (List aF)}{m:Nat}{a:Nat}(h0:ob 0=some (.tab tabs))(h1:ob 1=some (.row 60 1 L))(hm:m=M.length)(hL:L=M.map lsC):
  mA 2 (.tup [.own 1 m,.c (.int .i64 a)]) ob (fun r ob'=> ∃os',ob'=lst os'∧(2≤os'.length∧os'.length≤2+4)∧r= .tup [.own 1 M.length,.c (.int .i64 a)]∧os'=[.tab tabs,.row 60 1 (M.map lsC)]):=by
 subst hm hL;exact eN [] [] (.tup [.own 1 M.length,.c (.int .i64 a)]) [.tab tabs,.row 60 1 (M.map lsC)] rfl (by simp[HV.men,HV.menL]) ⟨⟨by simp[HO.men],by simp,_,h0,rfl⟩,⟨by simp[HO.men],by simp,_,h1,rfl⟩,trivial⟩ rfl List.nodup_nil (by simp) (by simp) ⟨rfl,rfl⟩
theorem bY7 (l:List Nd)(ht:IsTree l)(m:Nat): ∀(L:List (List aF)) (i:Nat) (hi:i<l.length),l.length-i≤m→0<L.length→L.length+2*(l.length-i)<2^40→
  HGe Tryz.prog 52 [.own 1 L.length,.c (.slc (l.map Nd.cv)),.c (.int .i64 i)] [.tab tabs,.row 60 1 (L.map lsC)] (fun r os'=>r= .tup [.own 1 (L++kD l i).length,.c (.int .i64 (aft l i:Nat))]∧os'=[.tab tabs,.row 60 1 ((L++kD l i).map lsC)]):=by
 induction m using Nat.strongRecOn with
 |ind m ih=>?_
 intro L i hi hfu hL0 hLl;refine cL (args:=[.own 1 L.length,.c (.slc (l.map Nd.cv)),.c (.int .i64 i)]) Tryz.func52 rfl (by kernel_rfl) (gJ rfl (by simp[fA,HO.men,HV.men,HV.menL]) (by simp[HV.menL,HV.men])) (Nat.le_of_ble_eq_true rfl) ?_;show Hw _ _ 2 _ _ _ (lst _) 2;rw[cP8];have hnode:=ht.node _ (List.getElem_mem hi);obtain⟨c1,c2,c3,c4⟩:=eI hnode;have hll:=ht.len;have hwi:IntKind.i64.wrap ((i:Int)+1)=((i+1:Nat):Int):=IntWalk.i64_in _ (by omega);obtain⟨a1,a2,a3⟩:=lB ht hi;refine R0 ?_;refine aB fun K hK=>Rg ?_;have F:=aI @Int.natCast_nonneg (aI @Int.ofNat_lt (aI hi (nM hi)));iterate 6 refine SF ?_
 refine T2 (hK _ _ _ ?_);clear hK K;have F:=hwi;refine RF ?_;refine aB fun K hK=>?_;have key: ∀fr ob nx,l[i].k≠1→Fits 2 fr ob (fin [(0,.own 1 (L.length+1)),(1,.c (.slc (l.map Nd.cv))),(2,.c (.int .i64 ((i+1:Nat):Int))),(8,.ptr 26 0)]) (fob [(0,.tab tabs),(1,.row 60 1 ((L++[wlN l[i]]).map lsC)),(26,.box 40 (.c l[i].cv))]) 300→K fr ob nx:=by
  rintro fr ob nx hk1 hf;refine hK _ _ _ (bM hf ?_);clear hf hK K;refine aB fun K hK=>?_;refine R0 ?_;refine aN ?_;refine bR (α:={k:Nat//k≤l[i].c.toNat}) (fun k=>(fin [(0,.own 1 (L.length+1+(eP l i k.1).length)),(1,.c (.slc (l.map Nd.cv))),(2,.c (.int .i64 (eO l k.1 (i+1):Nat))),(48,.c (.int .i64 l[i].c)),(49,.c (.int .i64 k.1))],fob [(0,.tab tabs),(1,.row 60 1 ((L++wlN l[i]::eP l i k.1).map lsC))])) 2000 (fun k=>l[i].c.toNat-k.1) ⟨0,by omega⟩ (aM (by omega) (by simp[aZ,fin_at,finA_at,upd_at,HV.men,HV.menL,HV.norm,HV.toC,HV.toCL,mO,eO]) (by simp[bA,fob_at,upd_at,none0_at,bX,HO.men,HV.men,HV.menL,HV.norm,HV.toC,HV.toCL,mO,eO])) ?_;rintro⟨k,hk⟩;obtain⟨k1,k2,k3⟩:=iK ht hi k hk;have hkl:=aR7 ht hi hk hk1;refine R0 ?_;refine aB fun K hK=>?_;refine aG (b:=decide ((k:Int)<l[i].c)) rfl (fun hb=>?_) (fun hb=>?_)
  ·
   have hlt:k<l[i].c.toNat:=by simp at hb;omega
   have hkid:=nU ht hi hlt;clear hb;obtain⟨M,hM⟩: ∃M,M=L++wlN l[i]::eP l i k:=⟨_,rfl⟩;have hMl:L.length+1+(eP l i k).length=M.length:=by rw[hM];simp;omega
   rw[←hM,hMl];refine aJ ?_;refine T0 (hK _ _ _ ?_);clear hK K;refine aB fun K hK=>?_;refine aN ?_;refine Rg ?_;iterate 3 refine S0 ?_
   refine HS rfl rfl fun K' hK'=>T5 ?_;refine fZ [0,1] (ih (l.length-eO l k (i+1)) (by omega) M (eO l k (i+1)) hkid (by omega) (by omega) (by omega)) rfl ⟨rfl,rfl,trivial⟩ (by simp) (by simp) ⟨rfl,rfl,rfl,rfl⟩ (by simp[fA,HO.men,HV.men,HV.menL]) (by simp[HV.menL,HV.men]) ?_;rintro r os' ⟨rfl,rfl⟩;rw[aZ2,aT3];refine AX (hK' _ _ ?_);clear hK' K';iterate 5 refine S0 ?_
   refine T2 (hK _ _ _ ?_);clear hK K;refine aK (by kernel_rfl) ?_;refine TQ (IntWalk.i64_in ((k:Int)+1) (by omega)) ?_;refine⟨⟨k+1,hlt⟩,?_,?_⟩
   ·
    have e1:M++kD l (eO l k (i+1))=L++wlN l[i]::eP l i (k+1):=by rw[hM,rU ht hi hlt];simp
    have e2:(M++kD l (eO l k (i+1))).length=L.length+1+(eP l i (k+1)).length:=by rw[e1];simp;omega
    simp only[];rw[←e1,←e2,gT];exact fF
   show l[i].c.toNat-(k+1)<l[i].c.toNat-k;omega
  refine bJ (T3 ?_);clear hK K;refine AX (hK _ _ _ ?_);clear hK K;have hke:k=l[i].c.toNat:=by simp at hb;omega
  subst hke;rw[yB ht hi]at hkl k3;clear hb;refine aB fun K hK=>bZ (by kernel_rfl) ?_;simp only[sR,simprocAttr];have F:=aI @lR @fC;refine SGF ?_;refine eB (g:=none) 2008 rfl rfl fun K' hK'=>?_;simp only[jC,lZ,sH,↓sP,sA,tyS,simprocAttr,lR,fC];repeat refine AI ?_
  refine eL (by first|rfl|simp) ?_;try simp only[sH,↓sP,sA,tyS,simprocAttr,lR,fC]
  refine AX (hK' _ _ ?_);clear hK' K';iterate 5 refine SGF ?_
  refine T2 (hK _ _ _ ?_);clear hK K;refine aE (RT Tryz.results52 ?_);rw[uP ht hi hk1,yB ht hi];exact yF (M:=L++wlN l[i]::(eP l i l[i].c.toNat++[[wEnd]])) rfl rfl (by simp) (by simp[lsC,wEnd])
 refine R0 ?_;refine aN ?_;refine R0 ?_;refine aG (b:=(l[i].k==1)) rfl (fun hb=>?_) (fun hb=>?_)
 ·
  have hk:l[i].k=1:=by simpa using hb
  obtain⟨⟨r1,r2⟩,r3,r4⟩:=bW4 (cE2 hnode hk);clear hb;refine aB fun K hK=>Rg ?_;have F:=aI @lR @fC;iterate 3 refine SF ?_
  refine HS rfl rfl fun K' hK'=>T6 ?_;refine fH (args:=[_]) 0 (bY6 l[i].q ⟨by omega,by omega⟩ ⟨by omega,by omega⟩) rfl (by simp) ⟨rfl,rfl,rfl,rfl⟩ ?_;rintro u rfl;refine AX (hK' _ _ ?_);clear hK' K';iterate 5 refine SF ?_
  refine T2 (hK _ _ _ ?_);clear hK K;refine aE (RT Tryz.results52 ?_);rw[xO hi hk,aR6 ht hi hk];exact yF (M:=L++[wlR l[i].q]) rfl rfl (by simp) (by simp)
 have hk1:l[i].k≠1:=by simpa using hb
 clear hb;refine R0 ?_;refine aG (b:=(l[i].k==2)) rfl (fun hb=>?_) (fun hb=>?_)
 ·
  have hk:l[i].k=2:=by simpa using hb
  have hwl:wlN l[i]=[eS]:=by simp[wlN,hk]
  clear hb;refine bZ (by kernel_rfl) ?_;simp only[sR,simprocAttr];refine SG0 ?_;refine eB (g:=none) 74 rfl rfl fun K' hK'=>?_;simp only[jC,lZ,sH,↓sP,sA,tyS,simprocAttr];repeat refine AI ?_
  refine eL (by first|rfl|simp) ?_;try simp only[sH,↓sP,sA,tyS,simprocAttr]
  refine AX (hK' _ _ ?_);clear hK' K';iterate 3 refine SG0 ?_
  refine T4 ?_;exact key _ _ _ hk1 (by rw[hwl];exact aM (by omega) (by simp[aZ,fin_at,finA_at,upd_at,HV.men,HV.menL,HV.norm,HV.toC,HV.toCL,lsC,eS,eT,bQ]) (by simp[bA,fob_at,upd_at,none0_at,bX,HO.men,HV.men,HV.menL,HV.norm,HV.toC,HV.toCL,lsC,eS,eT,bQ]))
 have hk2:l[i].k≠2:=by simpa using hb
 clear hb;refine R0 ?_;refine aG (b:=(l[i].k==3)) rfl (fun hb=>?_) (fun hb=>?_)
 ·
  have hk:l[i].k=3:=by simpa using hb
  have hwl:wlN l[i]=[eT]:=by simp[wlN,hk]
  clear hb;refine bZ (by kernel_rfl) ?_;simp only[sR,simprocAttr];refine SG0 ?_;refine eB (g:=none) 82 rfl rfl fun K' hK'=>?_;simp only[jC,lZ,sH,↓sP,sA,tyS,simprocAttr];repeat refine AI ?_
  refine eL (by first|rfl|simp) ?_;try simp only[sH,↓sP,sA,tyS,simprocAttr]
  refine AX (hK' _ _ ?_);clear hK' K';iterate 3 refine SG0 ?_
  refine T4 ?_;exact key _ _ _ hk1 (by rw[hwl];exact aM (by omega) (by simp[aZ,fin_at,finA_at,upd_at,HV.men,HV.menL,HV.norm,HV.toC,HV.toCL,lsC,eS,eT,bQ]) (by simp[bA,fob_at,upd_at,none0_at,bX,HO.men,HV.men,HV.menL,HV.norm,HV.toC,HV.toCL,lsC,eS,eT,bQ]))
 have hk3:l[i].k≠3:=by simpa using hb
 have hk4:=cE1 hnode hk1 hk2 hk3;clear hb;refine R0 ?_;refine aG (b:=(l[i].k==4)) rfl (fun hb=>?_) (fun hb=>?_)
 ·
  have hwl:wlN l[i]=[bQ,numW l[i].n]:=by simp[wlN,hk2,hk3]
  have hnn:=cE3 hnode hk4;clear hb;refine bZ (by kernel_rfl) ?_;simp only[sR,simprocAttr];iterate 3 refine SG0 ?_
  refine cA (g:=none) rfl rfl fun K' hK'=>T5 ?_;refine fH (args:=[_]) 0 (yE l[i].n ⟨by omega,by omega⟩) rfl (by simp) ⟨rfl,rfl,rfl,rfl⟩ ?_;rintro u rfl;refine AX (hK' _ _ ?_);clear hK' K';refine eB (g:=none) 102 rfl rfl fun K' hK'=>?_;simp only[jC,lZ,sH,↓sP,sA,tyS,simprocAttr];repeat refine AI ?_
  refine eL (by first|rfl|simp) ?_;try simp only[sH,↓sP,sA,tyS,simprocAttr]
  refine AX (hK' _ _ ?_);clear hK' K';iterate 3 refine SG0 ?_
  refine T4 ?_;exact key _ _ _ hk1 (by rw[hwl];exact aM (by omega) (by simp[aZ,fin_at,finA_at,upd_at,HV.men,HV.menL,HV.norm,HV.toC,HV.toCL,lsC,eS,eT,bQ]) (by simp[bA,fob_at,upd_at,none0_at,bX,HO.men,HV.men,HV.menL,HV.norm,HV.toC,HV.toCL,lsC,eS,eT,bQ]))
 rw[hk4]at hb;cases hb
theorem tT (p:Po)(hp:PoSz p):cF Tryz.prog 29 [p.cv] (fun v=>v= .bool (eR p)):=by
 have hpn:=hp.n;have hpr:=hp.r;refine FW Tryz.func29 ?_;refine R0 ?_;refine aB fun K hK=>?_;refine aB fun K hK=>?_;have key: ∀(b:Bool) fr ob nx,b=vE p→Fits 0 fr ob (fin [(1,.ptr 0 0),(21,.c (.bool b))]) (fob [(0,.box 45 (.c p.cv))]) 600→K fr ob nx:=by
  rintro b fr ob nx rfl hf;refine hK _ _ _ (bM hf ?_);clear hf hK K;refine aG (b:=vE p) rfl (fun hb=>?_) (fun hb=>?_)
  · refine R0 ?_;refine aE (RT Tryz.results29 ?_);exact aH [] (.bool false) rfl (by rw[aD0 hb])
  refine aJ ?_;refine T0 (hK _ _ _ ?_);clear hK K;refine R0 ?_;refine aB fun K hK=>?_;refine aB fun K hK=>Rg ?_;iterate 4 refine S0 ?_
  refine T2 (hK _ _ _ ?_);clear hK K;refine aN ?_;have hhead:=hb;clear hb;refine bR (α:={i:Nat//RlSt p.r i}) (fun i=>(fin [(3,.mapr 600),(24,.c (.slc (p.r.map Pr.cv))),(25,.c (.int .i64 p.r.length)),(26,.c (.int .i64 i.1))],fob [(600,.mp 0 0 (nmD (p.r.take i.1)))])) 2000 (fun i=>p.r.length-i.1) ⟨0,RlSt.zero p.r⟩ (aM (by omega) (by simp[aZ,fin_at,finA_at,upd_at,HV.men,HV.menL,HV.norm,HV.toC,HV.toCL,nmD]) (by simp[bA,fob_at,upd_at,none0_at,bX,HO.men,HV.men,HV.menL,HV.norm,HV.toC,HV.toCL,nmD])) ?_;rintro⟨i,hΦ⟩;refine R0 ?_;refine aB fun K hK=>?_;refine aG (b:=decide ((i:Int)<p.r.length)) rfl (fun hb=>?_) (fun hb=>?_)
  ·
   have hlt:i<p.r.length:=by simpa using hb
   clear hb;obtain⟨r,hr⟩: ∃r,r=p.r[i]:=⟨_,rfl⟩;have hmem:r∈p.r:=by rw[hr];exact List.getElem_mem hlt
   have hra:=hp.a r hmem;have hrt:=hp.t r hmem;have hra2:r.a.length≤maxLen:=by simp[maxLen];omega
   have hiv:nD (cW (nmD (p.r.take i)) r.a)=true:=by rw[bE1];split<;>rfl
   have hva:Go.Hl.zF (CV.bool false) (cW (nmD (p.r.take i)) r.a)=CV.bool (((p.r.take i).map Pr.a).contains r.a):=by rw[bE1];split<;>simp_all[Go.Hl.zF]
   refine aJ ?_;refine T0 (hK _ _ _ ?_);clear hK K;refine aB fun K hK=>?_;refine aN ?_;refine aB fun K hK=>Rg ?_;iterate 4 refine S0 ?_ (e:=fun _ h_=>by simp only[sH,↓sP,sA,tyS,simprocAttr,Int.natCast_nonneg,Int.ofNat_lt,hlt,bS hlt,←hr];exact AX h_)
   refine T2 (hK _ _ _ ?_);clear hK K;refine aB fun K hK=>?_;refine aB fun K hK=>?_;have key: ∀(b:Bool) fr ob nx,b=oD (((p.r.take i).map Pr.a).contains r.a) r→Fits 0 fr ob (fin [(3,.mapr 600),(24,.c (.slc (p.r.map Pr.cv))),(25,.c (.int .i64 p.r.length)),(26,.c (.int .i64 i)),(5,.ptr 2012 0),(63,.c (.bool b))]) (fob [(600,.mp 0 0 (nmD (p.r.take i))),(2012,.box 54 (.c r.cv))]) 3000→K fr ob nx:=by
    rintro b fr ob nx rfl hf;refine hK _ _ _ (bM hf ?_);clear hf hK K;refine aG (b:=oD (((p.r.take i).map Pr.a).contains r.a) r) rfl (fun hb=>?_) (fun hb=>?_)
    · refine R0 ?_;refine aE (RT Tryz.results29 ?_);exact aH [] (.bool false) rfl (by rw[aI4 (aI3 hlt (by rw[←aR8,←hr];exact hb))])
    have hΦ2:=hΦ.succ hlt (by rw[←aR8,←hr];exact hb);have hnm:kF (nmD (p.r.take i)) r.a (.val (.bool true))=nmD (p.r.take (i+1)):=by rw[List.take_succ_eq_append_getElem hlt,bW6,hr]
    clear hb;refine aJ ?_;refine T0 (hK _ _ _ ?_);clear hK K;refine Rg ?_;have F:=aI hra2 (aI hiv hnm);iterate 4 refine SF ?_
    refine T2 (hK _ _ _ ?_);clear hK K;refine aK (by kernel_rfl) ?_;refine TQ (IntWalk.i64_in ((i:Int)+1) (by omega)) ?_;refine⟨⟨i+1,hΦ2⟩,fF,?_⟩;show p.r.length-(i+1)<p.r.length-i;omega
   refine Rg ?_;have F:=aI hra2 (aI hiv hva);iterate 5 refine SF ?_
   refine aD 33 rfl (fun h7_33=>?_) (fun h7_33=>?_)
   ·
    have F:=aI hra2 (aI hiv (aI hva h7_33));iterate 29 refine SF ?_
    refine T4 ?_;exact key true _ _ _ (by simp only[oD,h7_33,Bool.not_true,Bool.not_false,Bool.true_or,Bool.false_or]) (fF)
   have F:=aI hra2 (aI hiv (aI hva h7_33));iterate 2 refine SF ?_
   refine aP (g:=some (34,false)) rfl rfl fun K' hK'=>T6 ?_;refine C1 (aG3 r.a (by omega)) ?_;rintro u rfl;refine AX (hK' _ _ ?_);clear hK' K';iterate 3 refine SF ?_
   refine aD 37 rfl (fun h7_37=>?_) (fun h7_37=>?_)
   ·
    have F:=aI hra2 (aI hiv (aI hva (aI h7_33 h7_37)));iterate 2 refine SF ?_
    refine aP (g:=some (40,false)) rfl rfl fun K' hK'=>T6 ?_;refine C1 (bD4 r.b) ?_;rintro u rfl;refine AX (hK' _ _ ?_);clear hK' K';iterate 3 refine SF ?_
    refine aD 43 rfl (fun h7_43=>?_) (fun h7_43=>?_)
    ·
     have F:=aI hra2 (aI hiv (aI hva (aI h7_33 (aI h7_37 h7_43))));iterate 2 refine SF ?_
     refine aP (g:=some (46,false)) rfl rfl fun K' hK'=>T6 ?_;refine C1 (bD4 r.c) ?_;rintro u rfl;refine AX (hK' _ _ ?_);clear hK' K';iterate 3 refine SF ?_
     refine aD 49 rfl (fun h7_49=>?_) (fun h7_49=>?_)
     ·
      have F:=aI hra2 (aI hiv (aI hva (aI h7_33 (aI h7_37 (aI h7_43 h7_49)))));iterate 2 refine SF ?_
      refine aP (g:=some (52,false)) rfl rfl fun K' hK'=>T6 ?_;refine C3 (iL _ _ _) ?_;rintro u rfl;refine AX (hK' _ _ ?_);clear hK' K';iterate 3 refine SF ?_
      refine aD 55 rfl (fun h7_55=>?_) (fun h7_55=>?_)
      ·
       have F:=aI hra2 (aI hiv (aI hva (aI h7_33 (aI h7_37 (aI h7_43 (aI h7_49 h7_55))))));iterate 2 refine SF ?_
       refine aP (g:=some (58,false)) rfl rfl fun K' hK'=>T6 ?_;refine C1 (vQ r.t hrt) ?_;rintro u rfl;refine AX (hK' _ _ ?_);clear hK' K';iterate 2 refine SF ?_
       refine aD 61 rfl (fun h7_61=>?_) (fun h7_61=>?_)
       · simp only[h7_61];refine T4 ?_;exact key false _ _ _ (by simp only[oD,h7_33,h7_37,h7_43,h7_49,h7_55,h7_61,Bool.not_true,Bool.not_false,Bool.true_or,Bool.false_or]) (fF)
       simp only[h7_61];refine T4 ?_;exact key true _ _ _ (by simp only[oD,h7_33,h7_37,h7_43,h7_49,h7_55,h7_61,Bool.not_true,Bool.not_false,Bool.true_or,Bool.false_or]) (fF)
      have F:=aI hra2 (aI hiv (aI hva (aI h7_33 (aI h7_37 (aI h7_43 (aI h7_49 h7_55))))));iterate 5 refine SF ?_
      refine T4 ?_;exact key true _ _ _ (by simp only[oD,h7_33,h7_37,h7_43,h7_49,h7_55,Bool.not_true,Bool.not_false,Bool.true_or,Bool.false_or]) (fF)
     have F:=aI hra2 (aI hiv (aI hva (aI h7_33 (aI h7_37 (aI h7_43 h7_49)))));iterate 11 refine SF ?_
     refine T4 ?_;exact key true _ _ _ (by simp only[oD,h7_33,h7_37,h7_43,h7_49,Bool.not_true,Bool.not_false,Bool.true_or,Bool.false_or]) (fF)
    have F:=aI hra2 (aI hiv (aI hva (aI h7_33 (aI h7_37 h7_43))));iterate 17 refine SF ?_
    refine T4 ?_;exact key true _ _ _ (by simp only[oD,h7_33,h7_37,h7_43,Bool.not_true,Bool.not_false,Bool.true_or,Bool.false_or]) (fF)
   have F:=aI hra2 (aI hiv (aI hva (aI h7_33 h7_37)));iterate 23 refine SF ?_
   refine T4 ?_;exact key true _ _ _ (by simp only[oD,h7_33,h7_37,Bool.not_true,Bool.not_false,Bool.true_or,Bool.false_or]) (fF)
  refine bJ (T3 ?_);clear hK K;refine AX (hK _ _ _ ?_);clear hK K;refine R0 ?_;refine aE (RT Tryz.results29 ?_);have hie:i=p.r.length:=by have:=hΦ.le;simp at hb;omega
  subst hie;exact aH [] (.bool true) rfl (by rw[aR9 hhead hΦ])
 refine Rg ?_;iterate 2 refine S0 ?_
 refine HS rfl rfl fun K' hK'=>T5 ?_;refine C1 (aG3 p.n (by omega)) ?_;rintro u rfl;refine AX (hK' _ _ ?_);clear hK' K';iterate 2 refine S0 ?_
 refine aD 8 rfl (fun h1_8=>?_) (fun h1_8=>?_)
 ·
  have F:=h1_8;iterate 2 refine SF ?_
  refine aP (g:=some (10,false)) rfl rfl fun K' hK'=>T6 ?_;refine C3 (iL _ _ _) ?_;rintro u rfl;refine AX (hK' _ _ ?_);clear hK' K';iterate 3 refine SF ?_
  refine aD 13 rfl (fun h1_13=>?_) (fun h1_13=>?_)
  ·
   have F:=aI h1_8 h1_13;iterate 5 refine SF ?_
   refine aD 20 rfl (fun h1_20=>?_) (fun h1_20=>?_)
   · simp only[h1_20];refine T4 ?_;exact key true _ _ _ (by simp only[vE,h1_8,h1_13,h1_20,Bool.not_true,Bool.not_false,Bool.true_or,Bool.false_or]) (fF)
   simp only[h1_20];refine T4 ?_;exact key false _ _ _ (by simp only[vE,h1_8,h1_13,h1_20,Bool.not_true,Bool.not_false,Bool.true_or,Bool.false_or]) (fF)
  have F:=aI h1_8 h1_13;iterate 5 refine SF ?_
  refine T4 ?_;exact key true _ _ _ (by simp only[vE,h1_8,h1_13,Bool.not_true,Bool.not_false,Bool.true_or,Bool.false_or]) (fF)
 have F:=h1_8;iterate 11 refine SF ?_
 refine T4 ?_;exact key true _ _ _ (by simp only[vE,h1_8,Bool.not_true,Bool.not_false,Bool.true_or,Bool.false_or]) (fF)
theorem bY8 (ls:List (List aF))(h0:ls.length<2^40)(h1: ∀l∈ls,l.length<2^40):iB Tryz.prog 53 [.slc (ls.map lsC)] (fun u v=>u= .slc ((pX ls).map dM)∧v= .int .i64 (iY ls)):=cJ1 ls h0 h1
theorem aZ3 (N n:Nat)(ob:Ob)(e:TypeId)(sz:Nat)(T:lA)(L:List CV):kZ (sub [0,N] n) ob 0 [.tab T,.row e sz L]=upd (upd ob 0 (some (.tab T))) N (some (.row e sz L)):=rfl
theorem bE9 (p:Po)(hp:PoSz p):bC0 Tryz.prog 27 tabs [p.cv] (fun u v=>u= .slc ((tM p).map dM)∧v= .int .i64 (yT p)):=by
 refine cL (args:=[.c p.cv]) Tryz.func27 rfl (by kernel_rfl) (gA tabs [p.cv]) (Nat.le_of_ble_eq_true rfl) ?_;unfold fL;refine R0 ?_;refine aB fun K hK=>?_;refine aB fun K hK=>Rg ?_;refine S0 ?_;refine HS rfl rfl fun K' hK'=>T5 ?_;refine C1 (tT p hp) ?_;rintro u rfl;refine AX (hK' _ _ ?_);clear hK' K';refine S0 ?_;refine T2 (hK _ _ _ ?_);clear hK K;refine aG (b:=!eR p) rfl (fun hb=>?_) (fun hb=>?_)
 ·
  refine R0 ?_;refine aE (RT Tryz.results27 ?_);have hv:eR p=false:=by simpa using hb
  refine uL [] (.slc []) (.int .i64 1) ?_ rfl (by simp) ⟨by rw[tM,hv];rfl,by rw[yT,hv];rfl⟩;simp[HV.close,HV.closeL,CV.denil,CV.denilL,HV.norm,HV.toC,HV.toCL]
 refine aJ ?_;refine T0 (hK _ _ _ ?_);clear hK K;have hv:eR p=true:=by simpa using hb
 clear hb;obtain⟨⟨v1,v2⟩,hr16,_,hrules⟩:=vN hv;refine aB fun K hK=>cY mixed [(0,[],[]),(1,[],[]),(2,[],[]),(3,[],[]),(4,[],[0,1]),(5,[],[]),(6,[],[]),(7,[],[])] [0,1,0,4,12,31,63,127] (by kernel_rfl) (by kernel_rfl) (by kernel_rfl) (by kernel_rfl) rfl (by kernel_rfl) ?_;iterate 4 refine WG0 ?_
 refine bU (g:=none) rfl rfl fun K' hK'=>T5 ?_;refine fH (args:=[_]) 0 (yE p.v ⟨by omega,by omega⟩) rfl (by simp) ⟨rfl,rfl,rfl,rfl⟩ ?_;rintro u rfl;refine AX (hK' _ _ ?_);clear hK' K';refine pL (g:=none) 45 rfl rfl fun K' hK'=>?_;simp only[jC,lZ,sH,↓sP,sA,tyS,simprocAttr];repeat refine AI ?_
 refine eL (by first|rfl|simp) ?_;try simp only[sH,↓sP,sA,tyS,simprocAttr]
 refine AX (hK' _ _ ?_);clear hK' K';iterate 2 refine WG0 ?_
 refine T2 (hK _ _ _ ?_);clear hK K;refine aB fun K hK=>?_;refine aB fun K hK=>Rg ?_;iterate 4 refine S0 ?_
 refine T2 (hK _ _ _ ?_);clear hK K;refine aN ?_;refine bR (α:={i:Nat//i≤p.r.length}) (fun i=>(fin [(4,.own 49 (qK p i.1).length),(18,.c (.slc (p.r.map Pr.cv))),(19,.c (.int .i64 p.r.length)),(20,.c (.int .i64 i.1))],fob [(0,.tab tabs),(49,.row 60 1 ((qK p i.1).map lsC))])) 2000 (fun i=>p.r.length-i.1) ⟨0,by omega⟩ (aM (by omega) (by simp[aZ,fin_at,finA_at,upd_at,HV.men,HV.menL,HV.norm,HV.toC,HV.toCL,qK,lsC,wPolicy]) (by simp[bA,fob_at,upd_at,none0_at,bX,HO.men,HV.men,HV.menL,HV.norm,HV.toC,HV.toCL,qK,lsC,wPolicy])) ?_;rintro⟨i,hi⟩;have hll:=aS9 hrules i hi;have hl0:0<(qK p i).length:=by simp[qK]
 refine R0 ?_;refine aB fun K hK=>?_;refine aG (b:=decide ((i:Int)<p.r.length)) rfl (fun hb=>?_) (fun hb=>?_)
 ·
  have hlt:i<p.r.length:=by simpa using hb
  clear hb;obtain⟨r,hr⟩: ∃r,r=p.r[i]:=⟨_,rfl⟩;have hrule:=hrules r (by rw[hr];exact List.getElem_mem hlt);obtain⟨⟨g1,g2⟩,ht,_⟩:=lP hrule;have ht0:0<r.t.length:=ht.ne;have htl:=ht.len;obtain⟨L,hL⟩: ∃L,L=qK p i:=⟨_,rfl⟩;rw[←hL]at hll hl0⊢;refine aJ ?_;refine T0 (hK _ _ _ ?_);clear hK K;refine aB fun K hK=>?_;refine aN ?_;refine aB fun K hK=>Rg ?_;iterate 4 refine S0 ?_ (e:=fun _ h_=>by simp only[sH,↓sP,sA,tyS,simprocAttr,Int.natCast_nonneg,Int.ofNat_lt,hlt,bS hlt,←hr];exact AX h_)
  refine T2 (hK _ _ _ ?_);clear hK K;refine aB fun K hK=>cY mixed [(0,[],[]),(1,[],[]),(2,[],[]),(3,[],[]),(4,[],[]),(5,[],[]),(6,[],[]),(7,[],[]),(8,[],[]),(9,[],[0,1,2,3,4,5,6]),(10,[],[]),(11,[],[]),(12,[],[]),(13,[],[])] [0,0,2,0,8,0,32,0,128,384,1022,2046,4095,8191] (by kernel_rfl) (by kernel_rfl) (by kernel_rfl) (by kernel_rfl) rfl (by kernel_rfl) ?_;iterate 9 refine WG0 ?_
  refine bU (g:=none) rfl rfl fun K' hK'=>T5 ?_;refine fH (args:=[_]) 0 (yE r.g ⟨by omega,by omega⟩) rfl (by simp) ⟨rfl,rfl,rfl,rfl⟩ ?_;rintro u rfl;refine AX (hK' _ _ ?_);clear hK' K';refine pL (g:=none) 2060 rfl rfl fun K' hK'=>?_;simp only[jC,lZ,sH,↓sP,sA,tyS,simprocAttr];repeat refine AI ?_
  refine eL (by first|rfl|simp) ?_;try simp only[sH,↓sP,sA,tyS,simprocAttr]
  refine AX (hK' _ _ ?_);clear hK' K';iterate 3 refine WG0 ?_
  refine T2 (hK _ _ _ ?_);clear hK K;obtain⟨M,hM⟩: ∃M,M=L++[[wRule,r.a,r.b,r.c,numW r.g]]:=⟨_,rfl⟩;have hMm:List.map lsC L++[CV.slc [CV.str [114,117,108,101],CV.str r.a,CV.str r.b,CV.str r.c,CV.str (numW r.g)]]=List.map lsC M:=by rw[hM];simp[lsC,wRule]
  have hMl:L.length+1=M.length:=by rw[hM];simp
  rw[hMm];simp only[List.length_map];refine Rg ?_;iterate 3 refine S0 ?_
  refine HS rfl rfl fun K' hK'=>T5 ?_;refine fZ [0,49] (bY7 r.t ht r.t.length M 0 ht0 (by omega) (by rw[hM];simp) (by rw[hM];simp;omega)) rfl ⟨rfl,rfl,trivial⟩ (by simp) (by simp) ⟨rfl,rfl,rfl,rfl⟩ (by simp[fA,HO.men,HV.men,HV.menL]) (by simp[HV.menL,HV.men]) ?_;rintro q os' ⟨rfl,rfl⟩;rw[aZ3,aD7];refine AX (hK' _ _ ?_);clear hK' K';iterate 4 refine S0 ?_
  refine T2 (hK _ _ _ ?_);clear hK K;refine aK (by kernel_rfl) ?_;refine TQ (IntWalk.i64_in ((i:Int)+1) (by omega)) ?_;refine⟨⟨i+1,hlt⟩,?_,?_⟩
  ·
   have e1:M++kD r.t 0=qK p (i+1):=by rw[aD5 hlt,hM,hL,yC,←hr];simp[kC]
   rw[e1];exact fF
  show p.r.length-(i+1)<p.r.length-i;omega
 refine bJ (T3 ?_);clear hK K;refine AX (hK _ _ _ ?_);clear hK K;have hei:i=p.r.length:=by simp at hb;omega
 subst hei;clear hb;rw[aS8];refine dN [49] (bM (fr2:=fin [(4,.c (.slc ((qA p).map lsC)))]) (ob2:=fob [(0,.tab tabs)]) (nx2:=3000) (aM (by omega) (by simp[aZ,eX,fin_at,finA_at,upd_at,fob_at,HV.close,HV.closeL,CV.denil,CV.denilL,aV,HV.men,HV.menL,HV.norm,HV.toC,HV.toCL]) (by simp[bA,eY,fob_at,upd_at,none0_at,bX,HO.close,HV.close,HV.closeL,HO.men,HV.men,HV.menL,HV.norm,HV.toC,HV.toCL])) ?_);rw[aS8]at hll;refine aB fun K hK=>Rg ?_;have F:=@aV;refine SF ?_;refine HS rfl rfl fun K' hK'=>T6 ?_;refine D1 (bY8 (qA p) (by omega) (cF2 p)) ?_;rintro u v ⟨rfl,rfl⟩;refine AX (hK' _ _ ?_);clear hK' K';iterate 4 refine SF ?_
 refine T2 (hK _ _ _ ?_);clear hK K;refine aE (RT Tryz.results27 ?_);exact uL [] (.slc ((pX (qA p)).map dM)) (.int .i64 (iY (qA p))) (by simp[HV.close,HV.closeL,CV.denil,CV.denilL,dH,HV.norm,HV.toC,HV.toCL]) rfl (by simp) ⟨by rw[tM,if_pos hv],by rw[yT,if_pos hv]⟩
end Go.Proofs.YtlldglbooaefhaaGreatDoor
namespace Go.Hl
open Go
def bF0 (P:Program)(f:FuncId)(T:lA)(args:List CV)(R:CV→CV→CV→Prop):Prop:=
 HFn P f (args.map .c) 1 (fL T) (fun r ob'=> ∃u v x,r= .tup [.c u,.c v,.c x]∧ob'=fL T∧R u v x)
variable {R:CV→CV→CV→Prop}{T:lA}{ob:Ob}
theorem iW {r:HV}(cl:List Nat)(u v x:CV)(h:(r.close ob cl).norm= .tup [.c u,.c v,.c x])(hb:ob 0=some (.tab T))(h0:0∉cl)(hR:R u v x):
  mA 1 r ob (fun r ob'=> ∃u v x,r= .tup [.c u,.c v,.c x]∧ob'=fL T∧R u v x):=
 ⟨cl,id,.tup [.c u,.c v,.c x],fL T,⟨u,v,x,rfl,rfl,hR⟩,by grind[HV.ren,HV.renL],fun _ _=>rfl,fun _ _ _ _ h=>h,by simp[HV.men,HV.menL],aW0 hb h0⟩
theorem uU {P:Program}{av:List Nat}{f:FuncId}{nid:Nat}{K:HV→Ob→Prop}{args:List CV}(id:Nat)(h:bF0 P f T args R)(hid:ob id=some (.tab T))(hav:id∉av)
  (hfree:ob nid=none∧ob (nid+1)=none∧ob (nid+2)=none∧ob (nid+3)=none) (hK: ∀u v x,R u v x→K (.tup [.c u,.c v,.c x]) ob):HCall P av f (args.map .c) ob nid K:=by
 refine⟨[id],args.map .c,_,_,h,gA T args,⟨by simp,by grind⟩,(HV.renL_c _ _).symm,tE hid,fun r lob' hR _=>?_⟩;obtain⟨u,v,x,rfl,rfl,hR⟩:=hR;rw[nQ hid hfree];exact hK u v x hR
end Go.Hl
namespace Go.Proofs.YtlldglbooaefhaaGreatDoor
open Go Go.Hl Go.Pl
set_option maxRecDepth 10000
set_option maxHeartbeats 16000000
theorem cF7 (b:aF):LsB (decO b):=fun l hl w hw=>by
 have:=(aG8 (b:=b) l hl).2.2 w hw;omega
theorem bM3 (a b:aF):cF Tryz.prog 64 [.slc (a.map dM),.slc (b.map dM)] (fun v=>v= .bool (a==b)):=by
 refine FW Tryz.func64 ?_;refine R0 ?_;refine aB fun K hK=>Rg ?_;have F:=@bytesC_map;iterate 6 refine SF ?_
 refine T2 (hK _ _ _ ?_);clear hK K;refine aE (RT Tryz.results64 ?_);exact aH [] (.bool (a==b)) rfl rfl
theorem bF1 (b:aF)(hl:b.length<2^40):bF0 Tryz.prog 32 tabs [.slc (b.map u8)] (fun u v x=>u=(dpO b).cv∧v= .int .i64 (dpL b:Nat)∧x= .int .i64 (dpE b)):=by
 refine cL (args:=[.c (.slc (b.map u8))]) Tryz.func32 rfl (by kernel_rfl) (gA tabs [.slc (b.map u8)]) (Nat.le_of_ble_eq_true rfl) ?_;unfold fL;have hlen:=aP7 (b:=b);refine R0 ?_;refine aB fun K hK=>Rg ?_;have F:=@denilL_u8;refine SF ?_;refine HS rfl rfl fun K' hK'=>T6 ?_;refine D1 (cK2 b hl) ?_;rintro u v ⟨rfl,rfl⟩;refine AX (hK' _ _ ?_);clear hK' K';iterate 5 refine SF ?_
 refine T2 (hK _ _ _ ?_);clear hK K;refine aB fun K hK=>?_;refine R0 ?_;refine aG (b:=!(eG b==0)) rfl (fun hb=>?_) (fun hb=>?_)
 ·
  have he:eG b≠0:=by simpa using hb
  have e1:dpE b=eG b:=by rw[dpE,if_pos he]
  have e2:dpL b=0:=by rw[dpL,if_pos he]
  have e3:dpO b=po0:=by rw[dpO,e1,if_neg he]
  clear hb;refine aB fun K hK=>Rg ?_;iterate 5 refine S0 ?_
  refine T2 (hK _ _ _ ?_);clear hK K;refine aE (RT Tryz.results32 ?_);exact iW [] po0.cv (.int .i64 0) (.int .i64 (eG b)) (by simp[HV.close,HV.closeL,po0,Po.cv,CV.denil,CV.denilL,HV.norm,HV.toC,HV.toCL]) rfl (by simp) (by rw[e1,e2,e3];exact⟨rfl,rfl,rfl⟩)
 refine aJ ?_;refine T0 (hK _ _ _ ?_);clear hK K;have he:eG b=0:=by simpa using hb
 clear hb;refine aB fun K hK=>Rg ?_;iterate 4 refine S0 ?_
 refine T2 (hK _ _ _ ?_);clear hK K;refine aB fun K hK=>Rg ?_;refine S0 ?_;refine HS rfl rfl fun K' hK'=>T5 ?_;refine eM (args:=[]) (bY5 (decO b) (by omega)) rfl (by simp) ⟨rfl,rfl,rfl,rfl⟩ ?_;rintro u x v' ⟨q,rfl,rfl,rfl,hq⟩;refine AX (hK' _ _ ?_);clear hK' K';iterate 5 refine S0 ?_
 refine T2 (hK _ _ _ ?_);clear hK K;refine aB fun K hK=>?_;refine R0 ?_;refine aG (b:=!(rdP (decO b)).1.isSome) rfl (fun hb=>?_) (fun hb=>?_)
 ·
  have hno:(rdP (decO b)).1=none:=by simpa using hb
  have e1:dpE b=2:=by rw[dpE,if_neg (by simpa using he),hno]
  have e2:dpL b=(decO b).length-(rdP (decO b)).2.length:=by
   rw[dpL,if_neg (by simpa using he)]
   match h:rdP (decO b)with
   |(none,r)=>rfl
   |(some p,r)=>rw[h]at hno;cases hno
  have e3:dpO b=po0:=by rw[dpO,e1,if_neg (by decide)]
  clear hb;refine aB fun K hK=>DW [(0,[],[]),(1,[],[]),(2,[],[]),(3,[],[]),(4,[],[]),(5,[],[1,2,3,4]),(6,[],[]),(7,[],[])] [0,0,2,6,14,1,63,127] ?_;iterate 8 refine W0 ?_ (e:=fun _ h_=>by simp only[sH,↓sP,sA,tyS,simprocAttr,rdr];exact AX h_)
  refine T2 (hK _ _ _ ?_);clear hK K;refine aE (RT Tryz.results32 ?_);exact iW [] po0.cv (.int .i64 ((decO b).length-(rdP (decO b)).2.length:Nat)) (.int .i64 2) (by simp[HV.close,HV.closeL,po0,Po.cv,CV.denil,CV.denilL,HV.norm,HV.toC,HV.toCL]) rfl (by simp) (by rw[e1,e2,e3];exact⟨rfl,rfl,rfl⟩)
 refine aJ ?_;refine T0 (hK _ _ _ ?_);clear hK K;refine aB fun K hK=>?_;obtain⟨p,hp⟩: ∃p,(rdP (decO b)).1=some p:=by
  cases h:(rdP (decO b)).1 with
  |none=>rw[h]at hb;simp at hb
  |some p=>exact⟨p,rfl⟩
 obtain rfl:=hq p hp;have hsz:=cH2 (cF7 b) (by omega) hp;have hr:rdP (decO b)=(some q,(rdP (decO b)).2):=Prod.ext hp rfl;have hiff:=cJ5 he hr;have e1:dpE b=if eR q then 0 else 1:=by rw[dpE,if_neg (by simpa using he),hp]
 have e2:dpL b=0:=by rw[dpL,if_neg (by simpa using he),hr]
 clear hb;refine aB fun K hK=>Rg ?_;refine S0 ?_;refine HS rfl rfl fun K' hK'=>T5 ?_;refine uM (args:=[_]) 0 (bE9 q hsz) rfl (by simp) ⟨rfl,rfl,rfl,rfl⟩ ?_;rintro u v ⟨rfl,rfl⟩;refine AX (hK' _ _ ?_);clear hK' K';iterate 5 refine S0 ?_
 refine T2 (hK _ _ _ ?_);clear hK K;refine aB fun K hK=>Rg ?_;have F:=aI @dH @denilL_u8;iterate 3 refine SF ?_
 refine aD 40 rfl (fun h9_40=>?_) (fun h9_40=>?_)
 ·
  have F:=aI @dH (aI @denilL_u8 h9_40);iterate 5 refine SF ?_
  refine T2 (hK _ _ _ ?_);clear hK K;refine CT rfl ?_;refine aB fun K hK=>Rg ?_;have F:=h9_40;iterate 4 refine SF ?_
  refine T2 (hK _ _ _ ?_);clear hK K;refine aE (RT Tryz.results32 ?_);have hpo:eR q=false:=by
   cases h:eR q with
   |false=>rfl
   |true=>exact absurd (hiff.2 h).1 (by simpa using h9_40)
  rw[hpo]at e1;have e1:dpE b=1:=e1;have e3:dpO b=po0:=by rw[dpO,e1,if_neg (by decide)]
  exact iW [] po0.cv (.int .i64 0) (.int .i64 1) (by simp[HV.close,HV.closeL,po0,Po.cv,CV.denil,CV.denilL,HV.norm,HV.toC,HV.toCL]) rfl (by simp) (by rw[e1,e2,e3];exact⟨rfl,rfl,rfl⟩)
 have F:=aI @dH (aI @denilL_u8 h9_40);iterate 2 refine SF ?_
 refine aP (g:=some (41,false)) rfl rfl fun K' hK'=>T6 ?_;refine C2 (bM3 (tM q) b) ?_;rintro u rfl;refine AX (hK' _ _ ?_);clear hK' K';iterate 2 refine SF ?_
 refine aD 44 rfl (fun h9_44=>?_) (fun h9_44=>?_)
 ·
  simp only[h9_44];refine T2 (hK _ _ _ ?_);clear hK K;refine CF rfl ?_;refine aJ ?_;refine T0 (hK _ _ _ ?_);clear hK K;refine aB fun K hK=>Rg ?_;have F:=aI h9_40 h9_44;iterate 4 refine SF ?_
  refine T2 (hK _ _ _ ?_);clear hK K;refine aE (RT Tryz.results32 ?_);have hpo:eR q=true:=hiff.1 ⟨by simpa using h9_40,by simpa using h9_44⟩;rw[hpo]at e1;have e1:dpE b=0:=e1;have e3:dpO b=q:=by rw[dpO,if_pos e1,hp];rfl
  exact iW [] q.cv (.int .i64 0) (.int .i64 0) (by simp[HV.close,HV.closeL,Po.denil,CV.denil,CV.denilL,HV.norm,HV.toC,HV.toCL]) rfl (by simp) (by rw[e1,e2,e3];exact⟨rfl,rfl,rfl⟩)
 simp only[h9_44];refine T2 (hK _ _ _ ?_);clear hK K;refine CT rfl ?_;refine aB fun K hK=>Rg ?_;have F:=aI h9_40 h9_44;iterate 4 refine SF ?_
 refine T2 (hK _ _ _ ?_);clear hK K;refine aE (RT Tryz.results32 ?_);have hpo:eR q=false:=by
  cases h:eR q with
  |false=>rfl
  |true=>exact absurd (hiff.2 h).2 (by simpa using h9_44)
 rw[hpo]at e1;have e1:dpE b=1:=e1;have e3:dpO b=po0:=by rw[dpO,e1,if_neg (by decide)]
 exact iW [] po0.cv (.int .i64 0) (.int .i64 1) (by simp[HV.close,HV.closeL,po0,Po.cv,CV.denil,CV.denilL,HV.norm,HV.toC,HV.toCL]) rfl (by simp) (by rw[e1,e2,e3];exact⟨rfl,rfl,rfl⟩)
theorem cF8 (ns im:aF)(r:Pr):cF Tryz.prog 71 [r.cv,.rp (.str ns),.rp (.str im)] (fun v=>v= .bool (aC1 ns im r)):=by
 refine FW Tryz.func71 ?_;refine R0 ?_;refine aB fun K hK=>Rg ?_;iterate 3 refine S0 ?_
 refine HS rfl rfl fun K' hK'=>T5 ?_;refine C2 (aR1 r.b ns) ?_;rintro u rfl;refine AX (hK' _ _ ?_);clear hK' K';refine S0 ?_;refine aD 8 rfl (fun h1_8=>?_) (fun h1_8=>?_)
 ·
  have F:=h1_8;iterate 3 refine SF ?_
  refine aP (g:=some (9,true)) rfl rfl fun K' hK'=>T6 ?_;refine C2 (aR1 r.c im) ?_;rintro u rfl;refine AX (hK' _ _ ?_);clear hK' K';iterate 2 refine SF ?_
  refine T2 (hK _ _ _ ?_);clear hK K;refine aE (RT Tryz.results71 ?_);exact aH [] (.bool _) rfl (by simp only[aC1,h1_8,Bool.and_true,Bool.and_false,Bool.true_and,Bool.false_and])
 have F:=h1_8;iterate 6 refine SF ?_
 refine T2 (hK _ _ _ ?_);clear hK K;refine aE (RT Tryz.results71 ?_);exact aH [] (.bool _) rfl (by simp only[aC1,h1_8,Bool.and_true,Bool.and_false,Bool.true_and,Bool.false_and])
def bM4 (l:List Pr)(p:Pr→Bool):Int:=match l.findIdx? p with|some i=>(i:Int)|none=> -1
variable {p:Pr→Bool}{l:List Pr}
theorem bY9 {i:Nat}(hi:i<l.length)(h:p l[i]=true)(h0: ∀j (hj:j<i),p (l[j]'(by omega))=false):bM4 l p=i:=by
 have:l.findIdx? p=some i:=by
  rw[List.findIdx?_eq_some_iff_getElem];exact⟨hi,h,fun j hj=>by rw[h0 j hj];simp⟩
 rw[bM4,this]
theorem bM5 (h0: ∀j (hj:j<l.length),p l[j]=false):bM4 l p= -1:=by
 have:l.findIdx? p=none:=by
  rw[List.findIdx?_eq_none_iff];intro r hr;obtain⟨j,hj,rfl⟩:=List.getElem_of_mem hr;exact h0 j hj
 rw[bM4,this]
theorem cF9 (l:List Pr)(g:FuncId)(caps:List CV)(p:Pr→Bool)(hl:l.length<2^40)(hp: ∀r∈l,cF Tryz.prog g (r.cv::caps) (fun v=>v= .bool (p r))):
  bO5 Tryz.prog 70 [.c (.slc (l.map Pr.cv)),.clo g (caps.map .c)] (fun v=>v= .int .i64 (bM4 l p)):=by
 refine cL Tryz.func70 rfl (by kernel_rfl) (bA8 (by simp[HV.menL,HV.men,HV.menL_c])) (Nat.le_of_ble_eq_true rfl) ?_;refine R0 ?_;refine aB fun K hK=>?_;refine R0 ?_;refine aN ?_;refine bR (α:={i:Nat//i≤l.length∧ ∀j (hj:j<i) (h:j<l.length),p l[j]=false}) (fun i=>(fin [(0,.c (.slc (l.map Pr.cv))),(1,.clo g (caps.map .c)),(7,.c (.int .i64 l.length)),(8,.c (.int .i64 i.1))],fob [])) 100 (fun i=>l.length-i.1) ⟨0,by omega,fun j hj=>by omega⟩ (aM (by omega) (by simp[aZ,fin_at,finA_at,upd_at,HV.men,HV.menL,HV.norm,HV.toC,HV.toCL,HV.menL_c]) (by simp[bA])) ?_;rintro⟨i,hi,h0⟩;refine R0 ?_;refine aB fun K hK=>?_;refine aG (b:=decide ((i:Int)<l.length)) rfl (fun hb=>?_) (fun hb=>?_)
 ·
  have hlt:i<l.length:=by simpa using hb
  clear hb;refine aJ ?_;refine T0 (hK _ _ _ ?_);clear hK K;refine aB fun K hK=>?_;refine aN ?_;refine R0 ?_;refine aB fun K hK=>Rg ?_;have F:=aI @Int.natCast_nonneg (aI @Int.ofNat_lt (aI hlt (nM hlt)));iterate 5 refine SF ?_
  refine HS rfl rfl fun K' hK'=>T6 ?_;refine lG (args:=l[i].cv::caps) (hp _ (List.getElem_mem hlt)) ⟨rfl,rfl,rfl,rfl⟩ ?_;rintro u rfl;refine AX (hK' _ _ ?_);clear hK' K';refine T2 (hK _ _ _ ?_);clear hK K;refine aG (b:=p l[i]) rfl (fun hb=>?_) (fun hb=>?_)
  · refine R0 ?_;refine aE (RT Tryz.results70 ?_);exact aH [] (.int .i64 i) rfl (by rw[bY9 hlt hb fun j hj=>h0 j hj (by omega)])
  refine aJ ?_;refine T0 (hK _ _ _ ?_);clear hK K;refine aK (by kernel_rfl) ?_;refine TQ (IntWalk.i64_in ((i:Int)+1) (by omega)) ?_;refine⟨⟨i+1,hlt,fun j hj h=>?_⟩,aM (by omega) (by simp[aZ,fin_at,finA_at,upd_at,HV.men,HV.menL,HV.norm,HV.toC,HV.toCL,HV.menL_c]) (by simp[bA]),?_⟩
  ·
   rcases Nat.lt_or_ge j i with h1|h1
   · exact h0 j h1 h
   obtain rfl:j=i:=by omega
   exact hb
  show l.length-(i+1)<l.length-i;omega
 refine bJ (T3 ?_);clear hK K;refine AX (hK _ _ _ ?_);clear hK K;refine R0 ?_;refine aE (RT Tryz.results70 ?_);have hei:i=l.length:=by simp at hb;omega
 subst hei;exact aH [] (.int .i64 (-1)) rfl (by rw[bM5 fun j hj=>h0 j hj hj])
theorem cG0 (p:Po)(hp:PoSz p)(ns im:aF):cF Tryz.prog 39 [p.cv,.str ns,.str im] (fun v=>v= .int .i64 (bT7 p ns im)):=by
 refine FW Tryz.func39 ?_;refine aB fun K hK=>Rg ?_;iterate 4 refine S0 ?_
 refine T2 (hK _ _ _ ?_);clear hK K;refine aB fun K hK=>?_;refine aB fun K hK=>Rg ?_;refine S0 ?_;refine HS rfl rfl fun K' hK'=>T5 ?_;refine C1 (tT p hp) ?_;rintro u rfl;refine AX (hK' _ _ ?_);clear hK' K';refine S0 ?_;refine T2 (hK _ _ _ ?_);clear hK K;refine aG (b:=!eR p) rfl (fun hb=>?_) (fun hb=>?_)
 · refine R0 ?_;refine aE (RT Tryz.results39 ?_);exact aH [] (.int .i64 (-1)) rfl (by rw[bT8 (by simpa using hb)])
 refine aJ ?_;refine T0 (hK _ _ _ ?_);clear hK K;have hv:eR p=true:=by simpa using hb
 clear hb;refine zR 4 4 rfl rfl ?_;refine zR 5 8 rfl rfl ?_;refine aB fun K hK=>Rg ?_;have F:=aI @cA2 @upd_at;iterate 3 refine SF ?_
 refine HS rfl rfl fun K' hK'=>T6 ?_;refine aV0 (cF9 p.r 71 [.rp (.str ns),.rp (.str im)] (aC1 ns im) hp.r fun r _=>cF8 ns im r) (by simp[HV.menL,HV.men]) (fun m=>by simp[HV.renL,HV.ren]) ⟨rfl,rfl,rfl,rfl⟩ ?_;rintro u rfl;refine AX (hK' _ _ ?_);clear hK' K';refine SF ?_;refine T2 (hK _ _ _ ?_);clear hK K;refine aE (RT Tryz.results39 ?_);exact aH [] (.int .i64 (bM4 p.r (aC1 ns im))) rfl (by rw[bT7,if_pos hv];rfl)
theorem aI9 (n:Int):cF Tryz.prog 49 [.int .i64 n] (fun v=>v=(aQ3 n).cv):=by
 refine FW Tryz.func49 ?_;refine R0 ?_;refine aB fun K hK=>Rg ?_;iterate 4 refine S0 ?_
 refine T2 (hK _ _ _ ?_);clear hK K;refine aE (RT Tryz.results49 ?_);exact aH [] (aQ3 n).cv rfl rfl
theorem bZ0 :PoSz awP:=⟨by decide,by decide,by decide,by decide⟩
theorem bZ1 : ∀n∈awT,n.q.t.length<2^63:=by decide
theorem bZ2 :yT awP=0:=by decide+kernel
theorem cL1 :(tM awP).length<2^40:=by decide+kernel
theorem aT4 :mK Tryz.prog 22 tabs [] (fun v=>v= .bool true):=by
 refine cL (args:=[]) Tryz.func22 rfl (by kernel_rfl) (gA tabs []) (Nat.le_of_ble_eq_true rfl) ?_;unfold fL;obtain⟨aw1,aw2,aw3⟩:=bJ6 bZ2;refine R0 ?_;refine aB fun K hK=>bZ (by kernel_rfl) ?_;simp only[sR,simprocAttr];refine SG0 ?_;refine cA (g:=none) rfl rfl fun K' hK'=>T5 ?_;refine C1 (aI9 1) ?_;rintro u rfl;refine AX (hK' _ _ ?_);clear hK' K';refine cA (g:=none) rfl rfl fun K' hK'=>T5 ?_;refine C1 (aI9 2) ?_;rintro u rfl;refine AX (hK' _ _ ?_);clear hK' K';refine cA (g:=none) rfl rfl fun K' hK'=>T5 ?_;refine C1 (aI9 3) ?_;rintro u rfl;refine AX (hK' _ _ ?_);clear hK' K';refine eB (g:=none) 21 rfl rfl fun K' hK'=>?_;simp only[jC,lZ,sH,↓sP,sA,tyS,simprocAttr];repeat refine AI ?_
 refine eL (by first|rfl|simp) ?_;try simp only[sH,↓sP,sA,tyS,simprocAttr]
 refine AX (hK' _ _ ?_);clear hK' K';refine SG0 ?_;refine T2 (hK _ _ _ ?_);clear hK K;refine aB fun K hK=>bZ (by kernel_rfl) ?_;simp only[sR,simprocAttr];iterate 2 refine SG0 ?_
 refine eB (g:=none) 37 rfl rfl fun K' hK'=>?_;simp only[jC,lZ,sH,↓sP,sA,tyS,simprocAttr];repeat refine AI ?_
 refine eL (by first|rfl|simp) ?_;try simp only[sH,↓sP,sA,tyS,simprocAttr]
 refine AX (hK' _ _ ?_);clear hK' K';iterate 3 refine SG0 ?_
 refine T2 (hK _ _ _ ?_);clear hK K;refine aB fun K hK=>Rg ?_;refine S0 ?_;refine HS rfl rfl fun K' hK'=>T5 ?_;refine uM (args:=[_]) 0 (bE9 awP bZ0) rfl (by simp) ⟨rfl,rfl,rfl,rfl⟩ ?_;rintro u v ⟨rfl,rfl⟩;rw[bZ2];refine AX (hK' _ _ ?_);clear hK' K';iterate 5 refine S0 ?_
 refine T2 (hK _ _ _ ?_);clear hK K;refine aB fun K hK=>Rg ?_;have F:=@dH;refine SF ?_;refine HS rfl rfl fun K' hK'=>T6 ?_;refine uU (args:=[_]) 0 (bF1 (tM awP) cL1) rfl (by simp) ⟨rfl,rfl,rfl,rfl⟩ ?_;rintro u v x ⟨rfl,rfl,rfl⟩;rw[aw1,aw2,aw3];refine AX (hK' _ _ ?_);clear hK' K';iterate 8 refine SF ?_
 refine T2 (hK _ _ _ ?_);clear hK K;refine aB fun K hK=>bZ (by kernel_rfl) ?_;simp only[sR,simprocAttr];have F:=aI @List.length_map.{0,0} (aI @lQ (aI @rV (show awP.r.length=1 from rfl)));refine SGF ?_;refine cA (g:=none) rfl rfl fun K' hK'=>T6 ?_;refine C1 (vQ awT bZ1) ?_;rintro u rfl;rw[cJ6];refine AX (hK' _ _ ?_);clear hK' K';iterate 2 refine SGF ?_
 refine cA (g:=some (30,true)) rfl rfl fun K' hK'=>T6 ?_;refine C1 (tT awP bZ0) ?_;rintro u rfl;rw[cJ7];refine AX (hK' _ _ ?_);clear hK' K';iterate 17 refine SGF ?_
 refine eB (g:=some (48,true)) 209 rfl rfl fun K' hK'=>?_;simp only[jC,lZ,sH,↓sP,sA,tyS,simprocAttr,List.length_map,lQ,rV,(show awP.r.length=1 from rfl)];repeat refine AI ?_
 refine eL (by first|rfl|simp) ?_;try simp only[sH,↓sP,sA,tyS,simprocAttr,List.length_map,lQ,rV,(show awP.r.length=1 from rfl)]
 refine AX (hK' _ _ ?_);clear hK' K';refine cA (g:=some (48,true)) rfl rfl fun K' hK'=>T6 ?_;refine C2 (bE3 awT bZ1 [true,false,true] (by decide)) ?_;rintro u rfl;rw[bT9];refine AX (hK' _ _ ?_);clear hK' K';iterate 3 refine SGF ?_
 refine eB (g:=some (53,true)) 229 rfl rfl fun K' hK'=>?_;simp only[jC,lZ,sH,↓sP,sA,tyS,simprocAttr,List.length_map,lQ,rV,(show awP.r.length=1 from rfl)];repeat refine AI ?_
 refine eL (by first|rfl|simp) ?_;try simp only[sH,↓sP,sA,tyS,simprocAttr,List.length_map,lQ,rV,(show awP.r.length=1 from rfl)]
 refine AX (hK' _ _ ?_);clear hK' K';refine cA (g:=some (53,true)) rfl rfl fun K' hK'=>T6 ?_;refine C2 (bE3 awT bZ1 [true] (by decide)) ?_;rintro u rfl;rw[bU0];refine AX (hK' _ _ ?_);clear hK' K';iterate 4 refine SGF ?_
 refine cA (g:=some (59,true)) rfl rfl fun K' hK'=>T6 ?_;refine C3 (cG0 awP bZ0 [112,114,111,100,47,101,117] [119,101,98]) ?_;rintro u rfl;rw[cJ8];refine AX (hK' _ _ ?_);clear hK' K';iterate 4 refine SGF ?_
 refine cA (g:=some (64,true)) rfl rfl fun K' hK'=>T6 ?_;refine C1 (aC7 awT bZ1) ?_;rintro u rfl;refine AX (hK' _ _ ?_);clear hK' K';iterate 5 refine SGF ?_
 refine cA (g:=some (70,true)) rfl rfl fun K' hK'=>T6 ?_;refine C2 (aR4 awT bZ1 0) ?_;rintro u rfl;refine AX (hK' _ _ ?_);clear hK' K';iterate 4 refine SGF ?_
 refine T2 (hK _ _ _ ?_);clear hK K;refine aE (RT Tryz.results22 ?_);exact dU [] (.bool true) rfl rfl (by simp) rfl
def tp (L:List Int)(a:Nat):CV:= .agg [.slc (L.map (.int .i64)),.int .i64 a]
attribute [local simp] tp
def ShN (T:List Nd):Prop:= ∀n∈T,n.q.t.length<2^63
theorem ShN.set {T:List Nd}(h:ShN T)(i:Nat){x:Nd}(hx:x.q.t.length<2^63):ShN (T.set i x):=fun n hn=>by
 rcases List.mem_or_eq_of_mem_set hn with h1|rfl
 · exact h n h1
 exact hx
end Go.Proofs.YtlldglbooaefhaaGreatDoor
namespace Go.Pl
open Go Go.Hl
def rN (n:Nat):aF:=[114,UInt8.ofNat (48+n)]
structure MadeR (r:Pr):Prop where
 ok:jD r=true
 b:r.b.length≤80
 c:r.c.length≤80
 t:r.t.length≤40
structure MadeRs (n:Nat)(rs:List Pr):Prop where
 two:n+rs.length≤2
 one:1≤n+rs.length
 ok: ∀r∈rs,MadeR r
 nm: ∀r∈rs,∃j,n<j∧j≤2∧r.a=rN j
 ap:gU rs=true
variable {n:Nat}
theorem MadeRs.zero (h1:1≤n)(h2:n≤2):MadeRs n []:=⟨by grind,by grind,by simp,by simp,rfl⟩
variable {rs:List Pr}
theorem MadeRs.next (h:MadeRs (n+1) rs){r:Pr}(hr:MadeR r)(ha:r.a=rN (n+1)):MadeRs n (rs++[r]):=by
 have h1:=h.two;refine⟨by grind,by grind,fun x hx=>?_,fun x hx=>?_,?_⟩
 ·
  rcases List.mem_append.1 hx with hx|hx
  · exact h.ok x hx
  grind
 ·
  rcases List.mem_append.1 hx with hx|hx
  · obtain⟨j,h2,h3,h4⟩:=h.nm x hx;grind
  grind
 ·
  rw[nY,h.ap,Bool.true_and,Bool.not_eq_true',←Bool.not_eq_true,List.contains_iff_mem];intro hm;obtain⟨x,hx,he⟩:=List.mem_map.1 hm;obtain⟨j,h2,h3,h4⟩:=h.nm x hx;rw[h4,ha]at he;have hj:j=2:=by omega
  have hn:n=0:=by omega
  subst hj hn
  revert he
  decide
theorem MadeRs.fin (h:MadeRs 0 rs){v:Int}(h1:1≤v)(h2:v≤1099511627776):bT6 ⟨[112],v,rs⟩:=by
 have h3:=h.two;have k:dR [112]=true:=by decide
 refine⟨?_,by grind,fun r hr=>⟨(h.ok r hr).b,(h.ok r hr).c,(h.ok r hr).t⟩⟩;have k1:inB v 1 vB=true:=by rw[iS,oZ];exact⟨h1,h2⟩
 have k2:decide (rs.length≤16)=true:=by simp;omega
 have k3:rs.all jD=true:=List.all_eq_true.2 fun r hr=>(h.ok r hr).ok;simp only[eR,k,k1,k2,k3,h.ap,Bool.and_self]
theorem bZ3 {q:Rq}(h:eV q=true):q.t.length≤64:=by
 have hn:dR q.t=true→q.t.length≤64:=fun h=>(xS h).2;have h0:q.t=[]→q.t.length≤64:=fun h=>by grind
 unfold eV at h;grind
theorem bM6 {n:Nd}(h:cH n=true):n.q.t.length≤64:=by
 have h0:n.q=rq0→n.q.t.length≤64:=fun h=>by rw[h];decide
 have h1:eV n.q=true→n.q.t.length≤64:=bZ3;unfold cH at h
 repeat' split at h
 all_goals simp_all[Bool.and_eq_true,qY,beq_iff_eq]
theorem bM7 {t:List Nd}(h:IsTree t): ∀n∈t,n.q.t.length<2^63:=fun n hn=>by have:=bM6 (h.node n hn);omega
theorem cG1 {p:Po}(h:eR p=true):PoSz p:=by
 obtain⟨_,h2,h3,h4⟩:=vN h;refine⟨by grind[xS],by omega,fun r hr=>?_,fun r hr=>bM7 (lP (h4 r hr)).2.1⟩;have:=(xS (lP (h4 r hr)).2.2.1).2;omega
theorem MadeRs.sz (h:MadeRs 0 rs)(v:Int):PoSz ⟨[112],v,rs⟩:=by
 have:=cG1 (h.fin (v:=1) (by omega) (by omega)).1;exact⟨this.n,this.r,this.a,this.t⟩
theorem cL2 (b:aF):(dpO b).r.length<2^40∧ ∀r∈(dpO b).r,r.t.length<2^40:=by
 have key: ∀p:Po,eR p=true→p.r.length<2^40∧ ∀r∈p.r,r.t.length<2^40:=fun p hp=>by
  obtain⟨_,h2,_,h4⟩:=vN hp;exact⟨by omega,fun r hr=>by have:=(lP (h4 r hr)).2.1.len;omega⟩
 have h0:po0.r.length<2^40∧ ∀r∈po0.r,r.t.length<2^40:=⟨by decide,fun r hr=>by cases hr⟩;unfold dpO;split
 ·
  rename_i he;unfold dpE at he;split at he
  · omega
  ·
   revert he
   cases h:(rdP (decO b)).1 with
   |none=>intro he;cases he
   |some p=>
    simp only[Option.getD_some];split
    · intro _;exact key p (by assumption)
    · intro he;cases he
 · exact h0
end Go.Pl
namespace Go.Proofs.YtlldglbooaefhaaGreatDoor
open Go Go.Hl Go.Pl
set_option maxRecDepth 10000
set_option maxHeartbeats 16000000
theorem bM8 {c:CV}(h:HasTy Tryz.prog 47 c): ∃b:aF,c= .slc (b.map u8):=by
 obtain⟨l,rfl,hl,hn⟩:=h.of_slc Tryz.underlying47;obtain⟨q,rfl,_⟩:=uT (f:=u8) (Q:=fun _=>True) l (fun x hx=>by
  obtain⟨n,rfl,hw⟩:=(hl x hx).of_int Tryz.underlying5;have hb:0≤n∧n≤255:=by simpa[Lit.wf,IntKind.min,IntKind.max,IntKind.signed,IntKind.bits]using hw
  refine⟨UInt8.ofNat n.toNat,?_,trivial⟩;show CV.int .u8 n=CV.int .u8 _;congr 1;have:(UInt8.ofNat n.toNat).toNat=n.toNat:=by rw[UInt8.toNat_ofNat'];exact Nat.mod_eq_of_lt (by omega)
  rw[this];omega)
 exact⟨q,rfl⟩
theorem aZ4 (b:aF):mK Tryz.prog 7 tabs [.slc (b.map u8)] (fun v=>v= .bool true):=by
 refine cL (args:=[.c (.slc (b.map u8))]) Tryz.func7 rfl (by kernel_rfl) (gA tabs [.slc (b.map u8)]) (Nat.le_of_ble_eq_true rfl) ?_;unfold fL;refine R0 ?_;refine aB fun K hK=>?_;have F:=@List.length_map.{0,0};refine RF ?_;refine aG (b:=decide ((4000:Int)<b.length)) rfl (fun hb=>?_) (fun hb=>?_)
 · refine aB fun K hK=>Rg ?_;refine HS rfl rfl fun K' hK'=>T5 ?_;refine fH (args:=[]) 0 aT4 rfl (by simp) ⟨rfl,rfl,rfl,rfl⟩ ?_;rintro u rfl;refine AX (hK' _ _ ?_);clear hK' K';refine S0 ?_;refine T2 (hK _ _ _ ?_);clear hK K;refine aE (RT Tryz.results7 ?_);exact dU [] (.bool true) rfl rfl (by simp) rfl
 refine aJ ?_;refine T0 (hK _ _ _ ?_);clear hK K;have hl:b.length≤4000:=by simp at hb;omega
 obtain⟨hs1,hs2⟩:=cL2 b;clear hb;refine aB fun K hK=>Rg ?_;have F:=@denilL_u8;refine SF ?_;refine HS rfl rfl fun K' hK'=>T6 ?_;refine uU (args:=[_]) 0 (bF1 b (by omega)) rfl (by simp) ⟨rfl,rfl,rfl,rfl⟩ ?_;rintro u v x ⟨rfl,rfl,rfl⟩;refine AX (hK' _ _ ?_);clear hK' K';iterate 8 refine SF ?_
 refine T2 (hK _ _ _ ?_);clear hK K;refine aB fun K hK=>Rg ?_;refine SF ?_;refine HS rfl rfl fun K' hK'=>T6 ?_;refine mH (args:=[_]) (cF3 b (by omega)) ⟨rfl,rfl,rfl,rfl⟩ ?_;rintro u v x ⟨rfl,rfl,rfl⟩;refine AX (hK' _ _ ?_);clear hK' K';iterate 8 refine SF ?_
 refine T2 (hK _ _ _ ?_);clear hK K;refine aB fun K hK=>Rg ?_;have F:=@beq_self_eq_true.{0};iterate 11 refine SF ?_
 refine aP (g:=some (33,true)) rfl rfl fun K' hK'=>T6 ?_;refine C2 (cF4 (dpO b) (dpO b) hs1 hs2) ?_;rintro u rfl;rw[decide_eq_true (rfl:dpO b=dpO b)];refine AX (hK' _ _ ?_);clear hK' K';iterate 2 refine SF ?_
 refine aP (g:=some (38,true)) rfl rfl fun K' hK'=>T6 ?_;refine fH (args:=[]) 0 aT4 rfl (by simp) ⟨rfl,rfl,rfl,rfl⟩ ?_;rintro u rfl;refine AX (hK' _ _ ?_);clear hK' K';iterate 2 refine SF ?_
 refine T2 (hK _ _ _ ?_);clear hK K;refine aE (RT Tryz.results7 ?_);exact dU [] (.bool true) rfl rfl (by simp) rfl
set_option maxRecDepth 100000
theorem zA {W:World}(h:laidMetH Tryz.prog Rows.policyDecodeRow.laid W):Lib.TabIs Tryz.prog W "internal/strconv.uint64pow10" .u64 Lib.pow10Tab:=by
  rw[MakeChecks.laidMetH_plain _ _ _ (by kernel_rfl)]at h;have h2:=laidMet.filter (fun x=>x.1== "internal/strconv.uint64pow10") h;have e:(Rows.policyDecodeRow.laid.filter fun x=>x.1== "internal/strconv.uint64pow10")=[("internal/strconv.uint64pow10",Lib.tabData .u64 Lib.pow10Tab)]:=by kernel_rfl
  rw[e]at h2;exact Lib.tabIs_of_head aI8 (by kernel_rfl) Tryz.underlying169 Tryz.underlying116 (by kernel_rfl) (by kernel_rfl) h2
theorem mW (H:Type)(enc:TypeId×Value→H)(W:World)(args:Array Value)(ds gs:List (DataW H))(before:List MemPlace)
    (hL:laidMetH Tryz.prog Rows.policyDecodeRow.laid W)
    (hval: ∀(j:Nat) t v,Tryz.f7.params[j]? =some t→args[j]? =some v→Value.okWide Tryz.prog W .any 0 t v)
    (hW:DataW.Whole enc Tryz.prog Tryz.f7.params.toList Rows.policyDecodeSpec.vars false W args.toList ds gs before):
    Calls Tryz.prog 7 args W fun e W'=> ∃v,e= .returned v∧Rows.policyDecodeSpec.post enc Tryz.prog Tryz.f7 false true false false W args v W':=by
  refine bH6 (mm:=6) (tb:=4) (tabs:=tabs) (by kernel_rfl) kids aX9 rfl (by kernel_rfl) Tryz.underlying4 ?_ ?_ ?_ ?_ (fun j t v h1 h2=>?_) hW
  · rw[Tryz.params7]
    intro H ds h
    match ds,h with
    |[c0],_=>exact⟨rfl,rfl,rfl⟩
  · rw[Tryz.params7]
    intro t ht;simp only[List.mem_cons,List.not_mem_nil,or_false]at ht;rcases ht with rfl
    · exact⟨by kernel_rfl,of_decide_eq_true (by kernel_rfl)⟩
  · rw[Tryz.params7]
    intro cs hn hty
    match cs,hn,hty with
    |[c0],_,hty=>
      obtain⟨b,rfl⟩:=bM8 (hty 0 _ c0 rfl rfl);exact aZ4 b
  · intro x hx
    simp only[tabs,List.mem_cons,List.not_mem_nil,or_false]at hx;rcases hx with rfl
    · exact yR aI8 (zA hL)
  · exact hval j t v h1 h2
open Go.ChangeShapes Go.WideShapes Go.ChangeAt Go.RowKit in
set_option maxRecDepth 100000 in
theorem pG (os:Os)(started:os.Started)(H:Type)(enc:TypeId×Value→H):
    ReturnsInHanded {} Tryz.checked os 7 .any (fun w args=>(Rows.policyDecodeSpec.pre enc Tryz.prog Tryz.f7 [] false w args∧laidMetH Tryz.prog Rows.policyDecodeRow.laid w)∧sizedMet enc Tryz.prog Tryz.f7 (OpenSpec.ofChange Rows.policyDecodeSpec) false w args)
      (Rows.policyDecodeSpec.post enc Tryz.prog Tryz.f7 false true false false):=by
  refine returnsInHanded_of_change_and (C:=Tryz.checked) (X:=fun w _=>laidMetH Tryz.prog Rows.policyDecodeRow.laid w) (fun _ _ _ hh h=>h.of_heap hh) own started (by kernel_rfl) Tryz.func7
    (ChangeSpec.witness_shaped (enc:=enc) (C:=Tryz.checked) (os:=os) (X:=fun w _=>laidMetH Tryz.prog Rows.policyDecodeRow.laid w) false (World.laidAll Tryz.prog os Rows.policyDecodeRow.laid) #[.slice none 0 0] 8 (World.laidAll_os _ _ _)
      (World.shaped_of_ZipB (by kernel_rfl) (by kernel_rfl)) (by kernel_rfl) (by kernel_rfl) (by kernel_rfl)
      (by rw[MakeChecks.laidMetH_plain _ _ _ (by kernel_rfl)];exact laidMet_laidAll _ (by kernel_rfl) (by kernel_rfl))) ?_
  intro W base args ds gs before hval hW _ _ hL _;exact mW H enc W args ds gs before hL (fun j t v h1 h2=>(hval j t v h1 h2)) hW
theorem tU :Rows.PolicyDecodeSaid:=
  OpenClaim.holds_of_wide 7 Tryz.f7 rfl rfl rfl rfl rfl rfl rfl ⟨rfl,rfl,rfl,rfl,rfl⟩ rfl rfl rfl rfl rfl (by kernel_rfl) Tryz.func7 (by kernel_rfl)
    (of_decide_eq_true (by kernel_rfl)) (by unfold Func.isWrapper;first|(rw[if_pos (by decide+kernel)];kernel_rfl)|(rw[if_neg (by decide+kernel)];exact⟨rfl,rfl⟩))
    (fun os started H enc _=>pG os started H enc)
theorem policyDecode_said :Rows.PolicyDecodeCardSaid:=
  Claim7.holds_tied_plain_at .later [] [.data,.data,.data,.data,.pinned] true (true,"ff5d47cd62c7d13f21802cca9c8b9512cc3c2844dd4407b78ea0f3c0525ec3f2") false tU (fun _ h=>by cases h) (by kernel_rfl) (fun _ h=>by cases h) policyDecode_row_tie rfl ⟨rfl,rfl⟩ (by kernel_rfl) rfl
    (fun f fn hf hfn=>by
      obtain rfl:f=7:=Option.some.inj ((show Tryz.prog.funcNamed "admission/admissionlaw28.PolicyDecode" =some 7 by kernel_rfl).symm.trans hf)|>.symm;obtain rfl:fn=Tryz.f7:=(Option.some.inj (Tryz.func7.symm.trans hfn)).symm;exact⟨by kernel_rfl,fun j t ht=>by
        rw[Tryz.params7]at ht;have hm:t∈[47]:=by simpa using Array.mem_of_getElem? ht
        have hall:([47].all fun u=>!Tryz.prog.wantsStandIn u)=true:=by kernel_rfl
        exact(show Tryz.prog.wantsStandIn t=false by simpa using List.all_eq_true.1 hall t hm)⟩)
    (by kernel_rfl)
#print axioms policyDecode_said
end Go.Proofs.YtlldglbooaefhaaGreatDoor
