/- Part of a proof: walks of functions of the program, by contracts, and the rules they use. By an AI agent. -/
import Derived.Test.YtlldglbooaefhaaGreatDoorHzU1
import Derived.Test.YtlldglbooaefhaaGreatDoorPl28r
import Derived.Test.YtlldglbooaefhaaGreatDoorHlTlaw
import Derived.Test.YtlldglbooaefhaaGreatDoorHzUf
import Derived.Test.YtlldglbooaefhaaGreatDoorHzUs
import Derived.Test.YtlldglbooaefhaaGreatDoorPl11v
import Derived.Test.YtlldglbooaefhaaGreatDoorHzV4
import Derived.Test.YtlldglbooaefhaaGreatDoorPl28o
set_option linter.unusedSimpArgs false
set_option linter.unusedVariables false
set_option linter.defProp false
namespace Go.Proofs.YtlldglbooaefhaaGreatDoor
open Go Go.Hl Go.Pl
set_option maxRecDepth 10000
set_option maxHeartbeats 16000000
theorem cA9 (q:Rq)(hn:cA6 q.n)(hm:cA6 q.m):cA Tryz.prog 82 [q.cv] (fun v=>v=lsC (wlR q)):=by
 refine FW Tryz.func82 ?_;refine R0 ?_;refine aC fun K hK=>DW [(0,[],[]),(1,[],[]),(3,[],[]),(4,[],[]),(2,[],[3,4]),(5,[],[]),(6,[],[]),(7,[],[])] [0,1,3,0,8,31,63,127] ?_;iterate 4 refine W0 ?_
 refine cE (g:=none) rfl rfl fun K' hK'=>T5 ?_;refine C1 (rJ q.n hn) ?_;rintro u rfl;refine AX (hK' _ _ ?_);clear hK' K';refine cE (g:=none) rfl rfl fun K' hK'=>T5 ?_;refine C1 (rJ q.m hm) ?_;rintro u rfl;refine AX (hK' _ _ ?_);clear hK' K';iterate 2 refine W0 ?_
 refine T2 (hK _ _ _ ?_);clear hK K;refine aC fun K hK=>?_;refine R0 ?_;refine aM ?_;refine R0 ?_;refine aG (b:=(q.k==1)) rfl (fun hb=>?_) (fun hb=>?_)
 ·
  have hk:q.k=1:=by simpa using hb
  clear hb;refine R0 ?_;refine aF (RT Tryz.results82 ?_);exact aJ [60] (lsC (wlR q)) (by rw[show wlR q=[dO,numW q.n]from by simp[wlR, *]];simp[lsC,HV.close,fob_at,upd_at,HV.norm,HV.toC,HV.closeL,HV.toCL,CV.denil];rfl) rfl
 have hk1: ¬q.k=1:=by simpa using hb
 clear hb;refine R0 ?_;refine aG (b:=(q.k==2)) rfl (fun hb=>?_) (fun hb=>?_)
 ·
  have hk:q.k=2:=by simpa using hb
  clear hb;refine aC fun K hK=>Rg ?_;iterate 4 refine S0 ?_
  refine T2 (hK _ _ _ ?_);clear hK K;refine aF (RT Tryz.results82 ?_);exact aJ [72] (lsC (wlR q)) (by rw[show wlR q=[eM,q.t]from by simp[wlR, *]];simp[lsC,HV.close,fob_at,upd_at,HV.norm,HV.toC,HV.closeL,HV.toCL,CV.denil];rfl) rfl
 have hk2: ¬q.k=2:=by simpa using hb
 clear hb;refine R0 ?_;refine aG (b:=(q.k==3)) rfl (fun hb=>?_) (fun hb=>?_)
 ·
  have hk:q.k=3:=by simpa using hb
  clear hb;refine R0 ?_;refine aF (RT Tryz.results82 ?_);exact aJ [76] (lsC (wlR q)) (by rw[show wlR q=[eB,numW q.n]from by simp[wlR, *]];simp[lsC,HV.close,fob_at,upd_at,HV.norm,HV.toC,HV.closeL,HV.toCL,CV.denil];rfl) rfl
 have hk3: ¬q.k=3:=by simpa using hb
 clear hb;refine R0 ?_;refine aG (b:=(q.k==4)) rfl (fun hb=>?_) (fun hb=>?_)
 ·
  have hk:q.k=4:=by simpa using hb
  clear hb;refine aC fun K hK=>Rg ?_;iterate 4 refine S0 ?_
  refine T2 (hK _ _ _ ?_);clear hK K;refine aF (RT Tryz.results82 ?_);exact aJ [88] (lsC (wlR q)) (by rw[show wlR q=[fN,numW q.n,numW q.m]from by simp[wlR, *]];simp[lsC,HV.close,fob_at,upd_at,HV.norm,HV.toC,HV.closeL,HV.toCL,CV.denil];rfl) rfl
 have hk4: ¬q.k=4:=by simpa using hb
 clear hb;refine R0 ?_;refine aG (b:=(q.k==5)) rfl (fun hb=>?_) (fun hb=>?_)
 ·
  have hk:q.k=5:=by simpa using hb
  clear hb;refine R0 ?_;refine aF (RT Tryz.results82 ?_);exact aJ [92] (lsC (wlR q)) (by rw[show wlR q=[gC,numW q.n]from by simp[wlR, *]];simp[lsC,HV.close,fob_at,upd_at,HV.norm,HV.toC,HV.closeL,HV.toCL,CV.denil];rfl) rfl
 have hk5: ¬q.k=5:=by simpa using hb
 clear hb;refine R0 ?_;refine aG (b:=(q.k==6)) rfl (fun hb=>?_) (fun hb=>?_)
 ·
  have hk:q.k=6:=by simpa using hb
  clear hb;refine R0 ?_;refine aF (RT Tryz.results82 ?_);exact aJ [100] (lsC (wlR q)) (by rw[show wlR q=[jR,numW q.n]from by simp[wlR, *]];simp[lsC,HV.close,fob_at,upd_at,HV.norm,HV.toC,HV.closeL,HV.toCL,CV.denil];rfl) rfl
 have hk6: ¬q.k=6:=by simpa using hb
 clear hb;refine R0 ?_;refine aG (b:=(q.k==7)) rfl (fun hb=>?_) (fun hb=>?_)
 ·
  have hk:q.k=7:=by simpa using hb
  clear hb;refine R0 ?_;refine aF (RT Tryz.results82 ?_);exact aJ [108] (lsC (wlR q)) (by rw[show wlR q=[kT,numW q.n]from by simp[wlR, *]];simp[lsC,HV.close,fob_at,upd_at,HV.norm,HV.toC,HV.closeL,HV.toCL,CV.denil];rfl) rfl
 have hk7: ¬q.k=7:=by simpa using hb
 clear hb;refine aK ?_;refine T0 (hK _ _ _ ?_);clear hK K;refine R0 ?_;refine aF (RT Tryz.results82 ?_);exact aJ [104] (lsC (wlR q)) (by rw[show wlR q=[iM]from by simp[wlR, *]];simp[lsC,HV.close,fob_at,upd_at,HV.norm,HV.toC,HV.closeL,HV.toCL,CV.denil];rfl) rfl
theorem aB3 (l:List (List aH)):(∀v∈l.map lsC,v.cells=1)=True:=eq_true fun v h=>by obtain⟨d,_,rfl⟩:=List.mem_map.1 h;exact eX d
theorem bT5 (l:List Nd)(ht:IsTree l)(m:Nat): ∀(i:Nat) (hi:i<l.length),l.length-i≤m→
  gT Tryz.prog 55 [.slc (l.map Nd.cv),.int .i64 i] (fun u v=>u= .slc ((eV l i).map lsC)∧v= .int .i64 (aft l i:Nat)):=by
 induction m using Nat.strongRecOn with
 |ind m ih=>?_
 intro i hi hfu;have hnode:=ht.node _ (List.getElem_mem hi);obtain⟨c1,c2,c3,c4⟩:=dV hnode;have hll:=ht.len;have hwi:IntKind.i64.wrap ((i:Int)+1)=((i+1:Nat):Int):=IntWalk.i64_in _ (by omega);obtain⟨a1,a2,a3⟩:=iB ht hi;refine FW Tryz.func55 ?_;refine R0 ?_;refine aC fun K hK=>Rg ?_;have F:=aI @Int.natCast_nonneg (aI @Int.ofNat_lt (aI hi (nM hi)));iterate 6 refine SF ?_
 refine T2 (hK _ _ _ ?_);clear hK K;refine aC fun K hK=>?_;refine R0 ?_;refine aG (b:=(l[i].k==1)) rfl (fun hb=>?_) (fun hb=>?_)
 ·
  have hk:l[i].k=1:=by simpa using hb
  obtain⟨⟨r1,r2⟩,r3,r4⟩:=aN8 (aZ9 hnode hk);clear hb;refine aC fun K hK=>Rg ?_;have F:=aI hwi (aI @eN @eX);iterate 2 refine SF ?_
  refine HS rfl rfl fun K' hK'=>T6 ?_;refine C1 (cA9 l[i].q ⟨by omega,by omega⟩ ⟨by omega,by omega⟩) ?_;rintro u rfl;refine AX (hK' _ _ ?_);clear hK' K';iterate 5 refine SF ?_
  refine T2 (hK _ _ _ ?_);clear hK K;refine aF (RT Tryz.results55 ?_);exact aX [56] (.slc ((eV l i).map lsC)) (.int .i64 (aft l i:Nat)) (by rw[pM hi hk,xD ht hi hk];simp[HV.close,fob_at,upd_at,HV.norm,HV.toC,HV.closeL,HV.toCL,eN,CV.denilL,CV.denil]) ⟨rfl,rfl⟩
 have hk1:l[i].k≠1:=by simpa using hb
 clear hb;refine aK ?_;refine T0 (hK _ _ _ ?_);clear hK K;refine aC fun K hK=>bA (by kernel_rfl) ?_;simp only[sR,simprocAttr];refine cF (g:=none) 44 rfl rfl fun K' hK'=>?_;simp only[eG,fS,sH,↓sP,sA,tyS,simprocAttr];repeat refine AI ?_
 refine bV (by first|rfl|simp) ?_;try simp only[sH,↓sP,sA,tyS,simprocAttr]
 refine AX (hK' _ _ ?_);clear hK' K';iterate 2 refine SG0 ?_
 refine T2 (hK _ _ _ ?_);clear hK K;refine aC fun K hK=>?_;have key: ∀(A:Nat) (w:List aH) fr ob nx,A<nx→nx≤300→w=(if l[i].k=3 then [lH]else [lG])→Fits 0 (mvF A 300 fr) (mvO A 300 ob) (fin [(0,.c (.slc (l.map Nd.cv))),(1,.c (.int .i64 i)),(6,.ptr 24 0),(7,.own 300 1)]) (fob [(24,.box 40 (.c l[i].cv)),(300,.row 60 1 [lsC w])]) 301→K fr ob nx:=by
  rintro A w fr ob nx hA hnx rfl hf;refine hK _ _ _ (aO9 A 300 (by omega) hA hnx (bF hf ?_));clear hf hK K;refine aC fun K hK=>?_;have key2: ∀(A:Nat) (w:List aH) fr ob nx,A<nx→nx≤600→w=wlN l[i]→Fits 0 (mvF A 600 fr) (mvO A 600 ob) (fin [(0,.c (.slc (l.map Nd.cv))),(1,.c (.int .i64 i)),(6,.ptr 24 0),(7,.own 600 1)]) (fob [(24,.box 40 (.c l[i].cv)),(600,.row 60 1 [lsC w])]) 601→K fr ob nx:=by
   rintro A w fr ob nx hA hnx rfl hf;refine hK _ _ _ (aO9 A 600 (by omega) hA hnx (bF hf ?_));clear hf hK K;have F:=hwi;refine RF ?_;refine aC fun K hK=>?_;refine R0 ?_;refine aM ?_;refine bI (α:={k:Nat//k≤l[i].c.toNat}) (fun k=>(fin [(0,.c (.slc (l.map Nd.cv))),(1,.c (.int .i64 (dB l k.1 (i+1):Nat))),(6,.ptr 24 0),(7,.own 600 ((cY l i k.1).length+1)),(8,.c (.int .i64 k.1))],fob [(24,.box 40 (.c l[i].cv)),(600,.row 60 1 ((wlN l[i]::cY l i k.1).map lsC))])) 2000 (fun k=>l[i].c.toNat-k.1) ⟨0,by omega⟩ (aL (by omega) (by simp[aS,fin_at,finA_at,upd_at,HV.men,HV.menL,HV.norm,HV.toC,HV.toCL,gW,dB]) (by simp[aT,fob_at,upd_at,none0_at,bL,HO.men,HV.men,HV.menL,HV.norm,HV.toC,HV.toCL,gW,dB])) ?_;rintro⟨k,hk⟩;obtain⟨k1,k2,k3⟩:=gJ ht hi k hk;have hkl:=tY ht hi hk hk1;refine aC fun K hK=>?_;refine aC fun K hK=>Rg ?_;iterate 4 refine S0 ?_
   refine T2 (hK _ _ _ ?_);clear hK K;refine aG (b:=decide ((k:Int)<l[i].c)) rfl (fun hb=>?_) (fun hb=>?_)
   ·
    have hlt:k<l[i].c.toNat:=by simp at hb;omega
    have hkid:=lC ht hi hlt;clear hb;refine aK ?_;refine T0 (hK _ _ _ ?_);clear hK K;refine aC fun K hK=>?_;refine aM ?_;refine aC fun K hK=>Rg ?_;iterate 2 refine S0 ?_
    refine HS rfl rfl fun K' hK'=>T5 ?_;refine D2 (ih (l.length-dB l k (i+1)) (by omega) (dB l k (i+1)) hkid (by omega)) ?_;rintro u v ⟨rfl,rfl⟩;refine AX (hK' _ _ ?_);clear hK' K';iterate 5 refine S0 ?_
    refine T2 (hK _ _ _ ?_);clear hK K;have hl2:=xE ht hkid;have hw1:(cY l i k).length+1+(eV l (dB l k (i+1))).length≤300:=by
     have:=(iB ht hkid).2.1;omega
    have hb1:((cY l i k).length+1+(eV l (dB l k (i+1))).length)*24≤140737488355328:=by omega
    have hb2:(cY l i k).length+1+(eV l (dB l k (i+1))).length≤maxLen:=by unfold maxLen;omega
    refine Rg ?_;have F:=aI @aB3 (aI hb1 hb2);iterate 6 refine SF ?_
    refine T2 (hK _ _ _ ?_);clear hK K;refine aN (by kernel_rfl) ?_;refine TQ (IntWalk.i64_in ((k:Int)+1) (by omega)) ?_;refine⟨⟨k+1,hlt⟩,?_,?_⟩
    · simp only[];rw[mB ht hi hlt,fM];exact fF
    show l[i].c.toNat-(k+1)<l[i].c.toNat-k;omega
   refine bD (T3 ?_);clear hK K;refine AX (hK _ _ _ ?_);clear hK K;have hke:k=l[i].c.toNat:=by simp at hb;omega
   subst hke;rw[rF ht hi]at hkl k3⊢;clear hb;refine aC fun K hK=>bA (by kernel_rfl) ?_;simp only[sR,simprocAttr];have F:=aI @eN @eX;refine SGF ?_;refine cF (g:=none) 2020 rfl rfl fun K' hK'=>?_;simp only[eG,fS,sH,↓sP,sA,tyS,simprocAttr,eN,eX];repeat refine AI ?_
   refine bV (by first|rfl|simp) ?_;try simp only[sH,↓sP,sA,tyS,simprocAttr,eN,eX]
   refine AX (hK' _ _ ?_);clear hK' K';iterate 5 refine SGF ?_
   refine T2 (hK _ _ _ ?_);clear hK K;refine aF (RT Tryz.results55 ?_);exact aX [600] (.slc ((eV l i).map lsC)) (.int .i64 (aft l i:Nat)) (by rw[nW ht hi hk1];simp[HV.close,fob_at,upd_at,HV.norm,HV.toC,HV.closeL,HV.toCL,aQ,eN,CV.denilL,CV.denil,lsC,wEnd]) ⟨rfl,rfl⟩
  refine R0 ?_;refine aG (b:=_) rfl (fun hb=>?_) (fun hb=>?_)
  ·
   have hk4:l[i].k=4:=by simpa using hb
   have hnn:=bA0 hnode hk4;clear hb;refine bA (by kernel_rfl) ?_;simp only[sR,simprocAttr];iterate 2 refine SG0 ?_
   refine bM (g:=none) rfl rfl fun K' hK'=>T5 ?_;refine C1 (rJ l[i].n ⟨by omega,by omega⟩) ?_;rintro u rfl;refine AX (hK' _ _ ?_);clear hK' K';refine cF (g:=none) 325 rfl rfl fun K' hK'=>?_;simp only[eG,fS,sH,↓sP,sA,tyS,simprocAttr];repeat refine AI ?_
   refine bV (by first|rfl|simp) ?_;try simp only[sH,↓sP,sA,tyS,simprocAttr]
   refine AX (hK' _ _ ?_);clear hK' K';iterate 2 refine SG0 ?_
   refine T4 ?_;exact key2 329 [cR,numW l[i].n] _ _ _ (by omega) (by omega) (by simp[wlN,hk4]) (aL (by omega) (by simp[aS,fin_at,finA_at,upd_at,HV.men,HV.menL,HV.norm,HV.toC,HV.toCL,mvF,mvO,mvN,HV.ren,HO.ren,lsC,cR]) (by simp[aT,fob_at,upd_at,none0_at,bL,HO.men,HV.men,HV.menL,HV.norm,HV.toC,HV.toCL,mvF,mvO,mvN,HV.ren,HO.ren,lsC,cR]))
  refine aK (T3 ?_);have hk4:l[i].k≠4:=by simpa using hb
  exact key2 300 (if l[i].k=3 then [lH]else [lG]) _ _ _ (by omega) (by omega) (by
   by_cases h3:l[i].k=3
   · simp[wlN,h3]
   have h2:l[i].k=2:=by
    apply Classical.byContradiction;exact fun h=>hk4 (aZ8 hnode hk1 h h3)
   simp[wlN,h2]) (aL (by omega) (by simp[aS,fin_at,finA_at,upd_at,HV.men,HV.menL,HV.norm,HV.toC,HV.toCL,mvF,mvO,mvN,HV.ren,HO.ren]) (by simp[aT,fob_at,upd_at,none0_at,bL,HO.men,HV.men,HV.menL,HV.norm,HV.toC,HV.toCL,mvF,mvO,mvN,HV.ren,HO.ren]))
 refine R0 ?_;refine aG (b:=_) rfl (fun hb=>?_) (fun hb=>?_)
 ·
  refine bA (by kernel_rfl) ?_;simp only[sR,simprocAttr];refine cF (g:=none) 68 rfl rfl fun K' hK'=>?_;simp only[eG,fS,sH,↓sP,sA,tyS,simprocAttr];repeat refine AI ?_
  refine bV (by first|rfl|simp) ?_;try simp only[sH,↓sP,sA,tyS,simprocAttr]
  refine AX (hK' _ _ ?_);clear hK' K';iterate 2 refine SG0 ?_
  refine T4 ?_;exact key 72 [lH] _ _ _ (by omega) (by omega) (by rw[if_pos (by simpa using hb)]) (aL (by omega) (by simp[aS,fin_at,finA_at,upd_at,HV.men,HV.menL,HV.norm,HV.toC,HV.toCL,mvF,mvO,mvN,HV.ren,HO.ren,lsC,lH]) (by simp[aT,fob_at,upd_at,none0_at,bL,HO.men,HV.men,HV.menL,HV.norm,HV.toC,HV.toCL,mvF,mvO,mvN,HV.ren,HO.ren,lsC,lH]))
 refine aK (T3 ?_);exact key 48 [lG] _ _ _ (by omega) (by omega) (by rw[if_neg (by simpa using hb)]) (aL (by omega) (by simp[aS,fin_at,finA_at,upd_at,HV.men,HV.menL,HV.norm,HV.toC,HV.toCL,mvF,mvO,mvN,HV.ren,HO.ren,lsC,lG]) (by simp[aT,fob_at,upd_at,none0_at,bL,HO.men,HV.men,HV.menL,HV.norm,HV.toC,HV.toCL,mvF,mvO,mvN,HV.ren,HO.ren,lsC,lG]))
theorem bH9 (ls:List (List aH))(h0:ls.length<2^40)(h1: ∀l∈ls,l.length<2^40):gT Tryz.prog 37 [.slc (ls.map lsC)] (fun u v=>u= .slc ((nH ls).map dF)∧v= .int .i64 (jX ls)):=cA2 ls h0 h1
theorem cB0 (p:Po)(hp:PoSz p):gT Tryz.prog 28 [p.cv] (fun u v=>u= .slc ((oV p).map dF)∧v= .int .i64 (sU p)):=by
 refine FW Tryz.func28 ?_;refine R0 ?_;refine aC fun K hK=>?_;refine aC fun K hK=>Rg ?_;refine S0 ?_;refine HS rfl rfl fun K' hK'=>T5 ?_;refine C1 (aA8 p hp) ?_;rintro u rfl;refine AX (hK' _ _ ?_);clear hK' K';refine S0 ?_;refine T2 (hK _ _ _ ?_);clear hK K;refine aG (b:=!eU p) rfl (fun hb=>?_) (fun hb=>?_)
 ·
  refine R0 ?_;refine aF (RT Tryz.results28 ?_);have hv:eU p=false:=by simpa using hb
  exact aX [] (.slc []) (.int .i64 1) (by simp[HV.close,HV.closeL,CV.denil,CV.denilL,HV.norm,HV.toC,HV.toCL]) ⟨by rw[oV,hv];rfl,by rw[sU,hv];rfl⟩
 refine aK ?_;refine T0 (hK _ _ _ ?_);clear hK K;have hv:eU p=true:=by simpa using hb
 clear hb;obtain⟨⟨v1,v2⟩,hr16,_,hrules⟩:=uO hv;refine aC fun K hK=>cT mixed [(0,[],[]),(1,[],[]),(2,[],[]),(3,[],[]),(4,[],[0,1]),(5,[],[]),(6,[],[]),(7,[],[])] [0,1,0,4,12,31,63,127] (by kernel_rfl) (by kernel_rfl) (by kernel_rfl) (by kernel_rfl) rfl (by kernel_rfl) ?_;iterate 4 refine WG0 ?_
 refine cG (g:=none) rfl rfl fun K' hK'=>T5 ?_;refine C1 (rJ p.v ⟨by omega,by omega⟩) ?_;rintro u rfl;refine AX (hK' _ _ ?_);clear hK' K';refine cP (g:=none) 44 rfl rfl fun K' hK'=>?_;simp only[eG,fS,sH,↓sP,sA,tyS,simprocAttr];repeat refine AI ?_
 refine bV (by first|rfl|simp) ?_;try simp only[sH,↓sP,sA,tyS,simprocAttr]
 refine AX (hK' _ _ ?_);clear hK' K';iterate 2 refine WG0 ?_
 refine T2 (hK _ _ _ ?_);clear hK K;refine aC fun K hK=>?_;refine R0 ?_;refine aM ?_;refine bI (α:={i:Nat//i≤p.r.length}) (fun i=>(fin [(1,.ptr 0 0),(4,.own 48 (jU p i.1).length),(5,.c (.int .i64 i.1))],fob [(0,.box 45 (.c p.cv)),(48,.row 60 1 ((jU p i.1).map lsC))])) 2000 (fun i=>p.r.length-i.1) ⟨0,by omega⟩ (aL (by omega) (by simp[aS,fin_at,finA_at,upd_at,HV.men,HV.menL,HV.norm,HV.toC,HV.toCL,jU,lsC,wPolicy]) (by simp[aT,fob_at,upd_at,none0_at,bL,HO.men,HV.men,HV.menL,HV.norm,HV.toC,HV.toCL,jU,lsC,wPolicy])) ?_;rintro⟨i,hi⟩;have hll:=xJ hrules i hi;have hl0:0<(jU p i).length:=by simp[jU]
 refine aC fun K hK=>?_;refine aC fun K hK=>Rg ?_;iterate 5 refine S0 ?_
 refine T2 (hK _ _ _ ?_);clear hK K;refine aG (b:=decide ((i:Int)<p.r.length)) rfl (fun hb=>?_) (fun hb=>?_)
 ·
  have hlt:i<p.r.length:=by simpa using hb
  clear hb;obtain⟨r,hr⟩: ∃r,r=p.r[i]:=⟨_,rfl⟩;have hrule:=hrules r (by rw[hr];exact List.getElem_mem hlt);obtain⟨⟨g1,g2⟩,ht,_⟩:=lJ hrule;have ht0:0<r.t.length:=ht.ne;have htl:=ht.len;obtain⟨L,hL⟩: ∃L,L=jU p i:=⟨_,rfl⟩;rw[←hL]at hll hl0⊢;refine aK ?_;refine T0 (hK _ _ _ ?_);clear hK K;refine aC fun K hK=>?_;refine aM ?_;refine aC fun K hK=>Rg ?_;iterate 7 refine S0 ?_ (e:=fun _ h_=>by simp only[sH,↓sP,sA,tyS,simprocAttr,Int.natCast_nonneg,Int.ofNat_lt,hlt,bH hlt,←hr];exact AX h_)
  refine T2 (hK _ _ _ ?_);clear hK K;refine aC fun K hK=>cT mixed [(0,[],[]),(1,[],[]),(2,[],[]),(3,[],[]),(4,[],[]),(5,[],[]),(6,[],[]),(7,[],[]),(8,[],[]),(9,[],[0,1,2,3,4,5,6]),(10,[],[]),(11,[],[]),(12,[],[]),(13,[],[])] [0,0,2,0,8,0,32,0,128,384,1022,2046,4095,8191] (by kernel_rfl) (by kernel_rfl) (by kernel_rfl) (by kernel_rfl) rfl (by kernel_rfl) ?_;iterate 9 refine WG0 ?_
  refine cG (g:=none) rfl rfl fun K' hK'=>T5 ?_;refine C1 (rJ r.g ⟨by omega,by omega⟩) ?_;rintro u rfl;refine AX (hK' _ _ ?_);clear hK' K';refine cP (g:=none) 2088 rfl rfl fun K' hK'=>?_;simp only[eG,fS,sH,↓sP,sA,tyS,simprocAttr];repeat refine AI ?_
  refine bV (by first|rfl|simp) ?_;try simp only[sH,↓sP,sA,tyS,simprocAttr]
  refine AX (hK' _ _ ?_);clear hK' K';iterate 3 refine WG0 ?_
  refine T2 (hK _ _ _ ?_);clear hK K;obtain⟨M,hM⟩: ∃M,M=L++[[wRule,r.a,r.b,r.c,numW r.g]]:=⟨_,rfl⟩;have hMm:List.map lsC L++[CV.slc [CV.str [114,117,108,101],CV.str r.a,CV.str r.b,CV.str r.c,CV.str (numW r.g)]]=List.map lsC M:=by rw[hM];simp[lsC,wRule]
  have hMl:L.length+1=M.length:=by rw[hM];simp
  rw[hMm];simp only[List.length_map];refine aC fun K hK=>Rg ?_;iterate 2 refine S0 ?_
  refine HS rfl rfl fun K' hK'=>T5 ?_;refine D2 (bT5 r.t ht r.t.length 0 ht0 (by omega)) ?_;rintro u v ⟨rfl,rfl⟩;refine AX (hK' _ _ ?_);clear hK' K';iterate 5 refine S0 ?_
  refine T2 (hK _ _ _ ?_);clear hK K;have hl2:=xE ht ht0;have ha2:=(iB ht ht0).2.1;have hw1:M.length+(eV r.t 0).length≤100000:=by omega
  have hb1:(M.length+(eV r.t 0).length)*24≤140737488355328:=by omega
  have hb2:M.length+(eV r.t 0).length≤maxLen:=by unfold maxLen;omega
  refine Rg ?_;have F:=aI @aB3 (aI hb1 (aI hb2 @List.length_map.{0,0}));iterate 4 refine SF ?_
  refine T2 (hK _ _ _ ?_);clear hK K;refine aN (by kernel_rfl) ?_;refine TQ (IntWalk.i64_in ((i:Int)+1) (by omega)) ?_;refine⟨⟨i+1,hlt⟩,?_,?_⟩
  ·
   have e1:jU p (i+1)=M++eV r.t 0:=by rw[sZ hlt,hM,hL,pT,←hr];simp[iW]
   simp only[];rw[e1];exact fF
  show p.r.length-(i+1)<p.r.length-i;omega
 refine bD (T3 ?_);clear hK K;refine AX (hK _ _ _ ?_);clear hK K;have hei:i=p.r.length:=by simp at hb;omega
 subst hei;clear hb;rw[rK];refine dA [48] (bF (fr2:=fin [(4,.c (.slc ((mA p).map lsC)))]) (ob2:=fob []) (nx2:=3000) (aL (by omega) (by simp[aS,dI,fin_at,finA_at,upd_at,fob_at,HV.close,HV.closeL,CV.denil,CV.denilL,aQ,HV.men,HV.menL,HV.norm,HV.toC,HV.toCL]) (by simp[aT,dJ,fob_at,upd_at,none0_at,bL,HO.close,HV.close,HV.closeL,HO.men,HV.men,HV.menL,HV.norm,HV.toC,HV.toCL])) ?_);rw[rK]at hll;refine aC fun K hK=>Rg ?_;have F:=@aQ;refine SF ?_;refine HS rfl rfl fun K' hK'=>T6 ?_;refine D1 (bH9 (mA p) (by omega) (bA8 p)) ?_;rintro u v ⟨rfl,rfl⟩;refine AX (hK' _ _ ?_);clear hK' K';iterate 4 refine SF ?_
 refine T2 (hK _ _ _ ?_);clear hK K;refine aF (RT Tryz.results28 ?_);exact aX [] (.slc ((nH (mA p)).map dF)) (.int .i64 (jX (mA p))) (by simp[HV.close,HV.closeL,CV.denil,CV.denilL,cX,HV.norm,HV.toC,HV.toCL]) ⟨by rw[oV,if_pos hv],by rw[sU,if_pos hv]⟩
theorem bT6 (ls:List (List aH))(h0:ls.length<2^40)(h1: ∀l∈ls,l.length<2^40):gT Tryz.prog 53 [.slc (ls.map lsC)] (fun u v=>u= .slc ((nH ls).map dF)∧v= .int .i64 (jX ls)):=cE2 ls h0 h1
theorem aV1 (N n:Nat)(ob:Ob)(e:TypeId)(sz:Nat)(T:kS)(L:List CV):jP (sub [0,N] n) ob 0 [.tab T,.row e sz L]=upd (upd ob 0 (some (.tab T))) N (some (.row e sz L)):=rfl
theorem aG3 (p:Po)(hp:PoSz p):aX7 Tryz.prog 27 tabs [p.cv] (fun u v=>u= .slc ((oV p).map dF)∧v= .int .i64 (sU p)):=by
 refine bT (args:=[.c p.cv]) Tryz.func27 rfl (by kernel_rfl) (fP tabs [p.cv]) (Nat.le_of_ble_eq_true rfl) ?_;unfold eT;refine R0 ?_;refine aC fun K hK=>?_;refine aC fun K hK=>Rg ?_;refine S0 ?_;refine HS rfl rfl fun K' hK'=>T5 ?_;refine C1 (oS p hp) ?_;rintro u rfl;refine AX (hK' _ _ ?_);clear hK' K';refine S0 ?_;refine T2 (hK _ _ _ ?_);clear hK K;refine aG (b:=!eU p) rfl (fun hb=>?_) (fun hb=>?_)
 ·
  refine R0 ?_;refine aF (RT Tryz.results27 ?_);have hv:eU p=false:=by simpa using hb
  refine tR [] (.slc []) (.int .i64 1) ?_ rfl (by simp) ⟨by rw[oV,hv];rfl,by rw[sU,hv];rfl⟩;simp[HV.close,HV.closeL,CV.denil,CV.denilL,HV.norm,HV.toC,HV.toCL]
 refine aK ?_;refine T0 (hK _ _ _ ?_);clear hK K;have hv:eU p=true:=by simpa using hb
 clear hb;obtain⟨⟨v1,v2⟩,hr16,_,hrules⟩:=uO hv;refine aC fun K hK=>cT mixed [(0,[],[]),(1,[],[]),(2,[],[]),(3,[],[]),(4,[],[0,1]),(5,[],[]),(6,[],[]),(7,[],[])] [0,1,0,4,12,31,63,127] (by kernel_rfl) (by kernel_rfl) (by kernel_rfl) (by kernel_rfl) rfl (by kernel_rfl) ?_;iterate 4 refine WG0 ?_
 refine cG (g:=none) rfl rfl fun K' hK'=>T5 ?_;refine eR (args:=[_]) 0 (xH p.v ⟨by omega,by omega⟩) rfl (by simp) ⟨rfl,rfl,rfl,rfl⟩ ?_;rintro u rfl;refine AX (hK' _ _ ?_);clear hK' K';refine cP (g:=none) 45 rfl rfl fun K' hK'=>?_;simp only[eG,fS,sH,↓sP,sA,tyS,simprocAttr];repeat refine AI ?_
 refine bV (by first|rfl|simp) ?_;try simp only[sH,↓sP,sA,tyS,simprocAttr]
 refine AX (hK' _ _ ?_);clear hK' K';iterate 2 refine WG0 ?_
 refine T2 (hK _ _ _ ?_);clear hK K;refine aC fun K hK=>?_;refine aC fun K hK=>Rg ?_;iterate 4 refine S0 ?_
 refine T2 (hK _ _ _ ?_);clear hK K;refine aM ?_;refine bI (α:={i:Nat//i≤p.r.length}) (fun i=>(fin [(4,.own 49 (jU p i.1).length),(18,.c (.slc (p.r.map Pr.cv))),(19,.c (.int .i64 p.r.length)),(20,.c (.int .i64 i.1))],fob [(0,.tab tabs),(49,.row 60 1 ((jU p i.1).map lsC))])) 2000 (fun i=>p.r.length-i.1) ⟨0,by omega⟩ (aL (by omega) (by simp[aS,fin_at,finA_at,upd_at,HV.men,HV.menL,HV.norm,HV.toC,HV.toCL,jU,lsC,wPolicy]) (by simp[aT,fob_at,upd_at,none0_at,bL,HO.men,HV.men,HV.menL,HV.norm,HV.toC,HV.toCL,jU,lsC,wPolicy])) ?_;rintro⟨i,hi⟩;have hll:=xJ hrules i hi;have hl0:0<(jU p i).length:=by simp[jU]
 refine R0 ?_;refine aC fun K hK=>?_;refine aG (b:=decide ((i:Int)<p.r.length)) rfl (fun hb=>?_) (fun hb=>?_)
 ·
  have hlt:i<p.r.length:=by simpa using hb
  clear hb;obtain⟨r,hr⟩: ∃r,r=p.r[i]:=⟨_,rfl⟩;have hrule:=hrules r (by rw[hr];exact List.getElem_mem hlt);obtain⟨⟨g1,g2⟩,ht,_⟩:=lJ hrule;have ht0:0<r.t.length:=ht.ne;have htl:=ht.len;obtain⟨L,hL⟩: ∃L,L=jU p i:=⟨_,rfl⟩;rw[←hL]at hll hl0⊢;refine aK ?_;refine T0 (hK _ _ _ ?_);clear hK K;refine aC fun K hK=>?_;refine aM ?_;refine aC fun K hK=>Rg ?_;iterate 4 refine S0 ?_ (e:=fun _ h_=>by simp only[sH,↓sP,sA,tyS,simprocAttr,Int.natCast_nonneg,Int.ofNat_lt,hlt,bH hlt,←hr];exact AX h_)
  refine T2 (hK _ _ _ ?_);clear hK K;refine aC fun K hK=>cT mixed [(0,[],[]),(1,[],[]),(2,[],[]),(3,[],[]),(4,[],[]),(5,[],[]),(6,[],[]),(7,[],[]),(8,[],[]),(9,[],[0,1,2,3,4,5,6]),(10,[],[]),(11,[],[]),(12,[],[]),(13,[],[])] [0,0,2,0,8,0,32,0,128,384,1022,2046,4095,8191] (by kernel_rfl) (by kernel_rfl) (by kernel_rfl) (by kernel_rfl) rfl (by kernel_rfl) ?_;iterate 9 refine WG0 ?_
  refine cG (g:=none) rfl rfl fun K' hK'=>T5 ?_;refine eR (args:=[_]) 0 (xH r.g ⟨by omega,by omega⟩) rfl (by simp) ⟨rfl,rfl,rfl,rfl⟩ ?_;rintro u rfl;refine AX (hK' _ _ ?_);clear hK' K';refine cP (g:=none) 2060 rfl rfl fun K' hK'=>?_;simp only[eG,fS,sH,↓sP,sA,tyS,simprocAttr];repeat refine AI ?_
  refine bV (by first|rfl|simp) ?_;try simp only[sH,↓sP,sA,tyS,simprocAttr]
  refine AX (hK' _ _ ?_);clear hK' K';iterate 3 refine WG0 ?_
  refine T2 (hK _ _ _ ?_);clear hK K;obtain⟨M,hM⟩: ∃M,M=L++[[wRule,r.a,r.b,r.c,numW r.g]]:=⟨_,rfl⟩;have hMm:List.map lsC L++[CV.slc [CV.str [114,117,108,101],CV.str r.a,CV.str r.b,CV.str r.c,CV.str (numW r.g)]]=List.map lsC M:=by rw[hM];simp[lsC,wRule]
  have hMl:L.length+1=M.length:=by rw[hM];simp
  rw[hMm];simp only[List.length_map];refine Rg ?_;iterate 3 refine S0 ?_
  refine HS rfl rfl fun K' hK'=>T5 ?_;refine eZ [0,49] (bT4 r.t ht r.t.length M 0 ht0 (by omega) (by rw[hM];simp) (by rw[hM];simp;omega)) rfl ⟨rfl,rfl,trivial⟩ (by simp) (by simp) ⟨rfl,rfl,rfl,rfl⟩ (by simp[eH,HO.men,HV.men,HV.menL]) (by simp[HV.menL,HV.men]) ?_;rintro q os' ⟨rfl,rfl⟩;rw[aV1,aB2];refine AX (hK' _ _ ?_);clear hK' K';iterate 4 refine S0 ?_
  refine T2 (hK _ _ _ ?_);clear hK K;refine aN (by kernel_rfl) ?_;refine TQ (IntWalk.i64_in ((i:Int)+1) (by omega)) ?_;refine⟨⟨i+1,hlt⟩,?_,?_⟩
  ·
   have e1:M++eV r.t 0=jU p (i+1):=by rw[sZ hlt,hM,hL,pT,←hr];simp[iW]
   rw[e1];exact fF
  show p.r.length-(i+1)<p.r.length-i;omega
 refine bD (T3 ?_);clear hK K;refine AX (hK _ _ _ ?_);clear hK K;have hei:i=p.r.length:=by simp at hb;omega
 subst hei;clear hb;rw[rK];refine dA [49] (bF (fr2:=fin [(4,.c (.slc ((mA p).map lsC)))]) (ob2:=fob [(0,.tab tabs)]) (nx2:=3000) (aL (by omega) (by simp[aS,dI,fin_at,finA_at,upd_at,fob_at,HV.close,HV.closeL,CV.denil,CV.denilL,aQ,HV.men,HV.menL,HV.norm,HV.toC,HV.toCL]) (by simp[aT,dJ,fob_at,upd_at,none0_at,bL,HO.close,HV.close,HV.closeL,HO.men,HV.men,HV.menL,HV.norm,HV.toC,HV.toCL])) ?_);rw[rK]at hll;refine aC fun K hK=>Rg ?_;have F:=@aQ;refine SF ?_;refine HS rfl rfl fun K' hK'=>T6 ?_;refine D1 (bT6 (mA p) (by omega) (bA8 p)) ?_;rintro u v ⟨rfl,rfl⟩;refine AX (hK' _ _ ?_);clear hK' K';iterate 4 refine SF ?_
 refine T2 (hK _ _ _ ?_);clear hK K;refine aF (RT Tryz.results27 ?_);exact tR [] (.slc ((nH (mA p)).map dF)) (.int .i64 (jX (mA p))) (by simp[HV.close,HV.closeL,CV.denil,CV.denilL,cX,HV.norm,HV.toC,HV.toCL]) rfl (by simp) ⟨by rw[oV,if_pos hv],by rw[sU,if_pos hv]⟩
end Go.Proofs.YtlldglbooaefhaaGreatDoor
namespace Go.Hl
open Go
def bA9 (P:Program)(f:FuncId)(T:kS)(args:List CV)(R:CV→CV→CV→Prop):Prop:=
 HFn P f (args.map .c) 1 (eT T) (fun r ob'=> ∃u v x,r= .tup [.c u,.c v,.c x]∧ob'=eT T∧R u v x)
variable {R:CV→CV→CV→Prop}{T:kS}{ob:Ob}
theorem iQ {r:HV}(cl:List Nat)(u v x:CV)(h:(r.close ob cl).norm= .tup [.c u,.c v,.c x])(hb:ob 0=some (.tab T))(h0:0∉cl)(hR:R u v x):
  mK 1 r ob (fun r ob'=> ∃u v x,r= .tup [.c u,.c v,.c x]∧ob'=eT T∧R u v x):=
 ⟨cl,id,.tup [.c u,.c v,.c x],eT T,⟨u,v,x,rfl,rfl,hR⟩,by grind[HV.ren,HV.renL],fun _ _=>rfl,fun _ _ _ _ h=>h,by simp[HV.men,HV.menL],aS1 hb h0⟩
theorem aP3 {P:Program}{av:List Nat}{f:FuncId}{nid:Nat}{K:HV→Ob→Prop}{args:List CV}(id:Nat)(h:bA9 P f T args R)(hid:ob id=some (.tab T))(hav:id∉av)
  (hfree:ob nid=none∧ob (nid+1)=none∧ob (nid+2)=none∧ob (nid+3)=none) (hK: ∀u v x,R u v x→K (.tup [.c u,.c v,.c x]) ob):HCall P av f (args.map .c) ob nid K:=by
 refine⟨[id],args.map .c,_,_,h,fP T args,⟨by simp,by grind⟩,(HV.renL_c _ _).symm,sJ hid,fun r lob' hR _=>?_⟩;obtain⟨u,v,x,rfl,rfl,hR⟩:=hR;rw[nK hid hfree];exact hK u v x hR
end Go.Hl
namespace Go.Pl
open Go Go.Hl
def LsB (ls:List (List aH)):Prop:= ∀l∈ls,∀w∈l,w.length<2^40
variable {ls:List (List aH)}
theorem LsB.drop (h:LsB ls)(j:Nat):LsB (ls.drop j):=fun l hl=>h l (List.mem_of_mem_drop hl)
theorem cF7 {l:List aH}(h: ∀w∈l,w.length<2^40)(i:Nat):(wd l i).length<2^40:=by grind[wd,Nat.lt_or_ge,List.getElem?_eq_getElem,List.getElem_mem,List.getElem?_eq_none]
variable {w:List aH}
theorem cF8 (h: ∀x∈w,x.length<2^40){q:Rq}(hq:fO w=some q):q.t.length<2^40:=by
 have h1:=cF7 h 1;have hm: ∀(k:Int) (o:Option Int),o.map (fun n=>(⟨k,n,0,[]⟩:Rq))=some q→q.t.length<2^40:=fun k o ho=>by
  cases o with
  |none=>grind
  |some n=>grind
 unfold fO at hq;split at hq
 · exact hm _ _ hq
 ·
  split at hq
  · grind
  ·
   split at hq
   · exact hm _ _ hq
   ·
    split at hq
    · grind
    ·
     split at hq
     · exact hm _ _ hq
     ·
      split at hq
      · exact hm _ _ hq
      ·
       split at hq
       · exact hm _ _ hq
       grind
theorem cF9 {n:Nd}(h:jS w=some n):n.q=rq0:=by grind[jS,bN,wd]
theorem cK4 : ∀f,(∀ls,LsB ls→ ∀t,(rdN f ls).1=some t→ ∀n∈t,n.q.t.length<2^40)∧(∀ls,LsB ls→ ∀p,(rdK f ls).1=some p→ ∀n∈p.1,n.q.t.length<2^40)
 |0=>⟨fun ls _ t h=>by simp[rdN]at h,fun ls _ t h=>by simp[rdK]at h⟩
 |f+1=>by
  obtain⟨ihN,ihK⟩:=cK4 f;refine⟨fun ls hb t h=>?_,fun ls hb p h=>?_⟩
  ·
   match ls with
   |[]=>simp[rdN]at h
   |w::r=>
    cases h1:fO w with
    |some q=>
     rw[nY h1]at h;cases h;intro n hn;rw[List.mem_singleton]at hn;subst hn;exact cF8 (hb w (by simp)) h1
    |none=>
     cases h2:jS w with
     |none=>grind[nZ]
     |some n=>
      rw[oR h1 h2]at h;cases hk:(rdK f r).1 with
      |none=>simp[yA,hk]at h
      |some p=>
       simp only[yA,hk,Option.map_some,Option.some.injEq]at h;subst h;intro x hx;rcases List.mem_cons.1 hx with rfl|hx
       · grind[cF9,rq0]
       · exact ihK r (fun l hl=>hb l (by grind)) p hk x hx
  ·
   cases he:iN (ls.headD [])with
   |true=>grind[aF4]
   |false=>
    match h2:rdN f ls with
    |(none,r)=>simp_all[aU3]
    |(some t,r)=>
     rw[xC he h2]at h;obtain⟨j,hj,_⟩:=(aF5 f).1 ls;rw[h2]at hj;have hj':r=ls.drop j:=hj;cases hk:(rdK f r).1 with
     |none=>simp[pS,hk]at h
     |some q=>
      simp only[pS,hk,Option.map_some,Option.some.injEq]at h;subst h;intro x hx;rcases List.mem_append.1 hx with hx|hx
      · grind
      · exact ihK r (by rw[hj'];exact hb.drop j) q hk x hx
def cG0 (r:Pr):Prop:=r.a.length<2^40∧ ∀n∈r.t,n.q.t.length<2^63
theorem cK5 (hb:LsB ls){x:Pr}(h:(rdR ls).1=some x):cG0 x:=by
 match ls with
 |[]=>cases h
 |w::r=>
  simp only[rdR]at h;split at h
  ·
   cases hn:bN (wd w 4)with
   |none=>grind
   |some g=>
    rw[hn]at h;simp only at h
    match hm:rdT r with
    |(none,r')=>grind
    |(some t,r')=>
     rw[hm]at h;cases h;have h1:=(cK4 (2*r.length+2)).1 r (fun l hl=>hb l (by grind)) t (by grind[rdT]);exact⟨cF7 (hb w (by simp)) 1,fun n hn=>Nat.lt_trans (h1 n hn) (by decide)⟩
  grind
theorem bT7 : ∀(f:Nat) (ls:List (List aH)) (acc:List Pr),LsB ls→(∀r∈acc,cG0 r)→ ∀l,(kU f ls acc).1=some l→(∀r∈l,cG0 r)∧l.length≤acc.length+f
 |0,ls,acc,_,_,l,h=>by simp[kU]at h
 |f+1,ls,acc,hb,ha,l,h=>by
  simp only[kU]at h;split at h
  · grind
  ·
   match hm:rdR ls with
   |(none,r)=>grind
   |(some x,r)=>
    rw[hm]at h;obtain⟨j,_,hj,_⟩:=aF6 ls;rw[hm]at hj;have hj':r=ls.drop j:=hj;have hx:=cK5 hb (x:=x) (by rw[hm]);obtain⟨h1,h2⟩:=bT7 f r (acc++[x]) (by rw[hj'];exact hb.drop j) (fun y hy=>by grind) l h;grind
theorem cK6 (hb:LsB ls)(hl:ls.length<2^39){p:Po}(h:(rdP ls).1=some p):PoSz p:=by
 match ls with
 |[]=>cases h
 |w::r=>
  simp only[rdP]at h;split at h
  ·
   cases hn:bN (wd w 2)with
   |none=>grind
   |some v=>
    rw[hn]at h;simp only at h
    match hm:kU (r.length+1) r []with
    |(none,r')=>grind
    |(some l,r')=>
     rw[hm]at h;cases h;obtain⟨h1,h2⟩:=bT7 (r.length+1) r [] (fun x hx=>hb x (by grind)) (by simp) l (by rw[hm]);simp only[List.length_cons,List.length_nil]at hl h2;exact⟨Nat.lt_of_lt_of_le (cF7 (hb w (by simp)) 1) (by decide),by grind,fun x hx=>Nat.lt_of_lt_of_le (h1 x hx).1 (by decide),fun x hx=>(h1 x hx).2⟩
  grind
end Go.Pl
namespace Go.Proofs.YtlldglbooaefhaaGreatDoor
open Go Go.Hl Go.Pl
set_option maxRecDepth 10000
set_option maxHeartbeats 16000000
theorem cB1 (b:aH):LsB (fT b):=fun l hl w hw=>by
 have:=(bX2 (b:=b) l hl).2.2 w hw;omega
theorem bI0 (a b:aH):cA Tryz.prog 64 [.slc (a.map dF),.slc (b.map dF)] (fun v=>v= .bool (a==b)):=by
 refine FW Tryz.func64 ?_;refine R0 ?_;refine aC fun K hK=>Rg ?_;have F:=@bytesC_map;iterate 6 refine SF ?_
 refine T2 (hK _ _ _ ?_);clear hK K;refine aF (RT Tryz.results64 ?_);exact aJ [] (.bool (a==b)) rfl rfl
theorem cB2 (b:aH)(hl:b.length<2^40):bA9 Tryz.prog 32 tabs [.slc (b.map u8)] (fun u v x=>u=(dpO b).cv∧v= .int .i64 (dpL b:Nat)∧x= .int .i64 (dpE b)):=by
 refine bT (args:=[.c (.slc (b.map u8))]) Tryz.func32 rfl (by kernel_rfl) (fP tabs [.slc (b.map u8)]) (Nat.le_of_ble_eq_true rfl) ?_;unfold eT;have hlen:=bO0 (b:=b);refine R0 ?_;refine aC fun K hK=>Rg ?_;have F:=@denilL_u8;refine SF ?_;refine HS rfl rfl fun K' hK'=>T6 ?_;refine D1 (cF5 b hl) ?_;rintro u v ⟨rfl,rfl⟩;refine AX (hK' _ _ ?_);clear hK' K';iterate 5 refine SF ?_
 refine T2 (hK _ _ _ ?_);clear hK K;refine aC fun K hK=>?_;refine R0 ?_;refine aG (b:=!(iT b==0)) rfl (fun hb=>?_) (fun hb=>?_)
 ·
  have he:iT b≠0:=by simpa using hb
  have e1:dpE b=iT b:=by rw[dpE,if_pos he]
  have e2:dpL b=0:=by rw[dpL,if_pos he]
  have e3:dpO b=po0:=by rw[dpO,e1,if_neg he]
  clear hb;refine aC fun K hK=>Rg ?_;iterate 5 refine S0 ?_
  refine T2 (hK _ _ _ ?_);clear hK K;refine aF (RT Tryz.results32 ?_);exact iQ [] po0.cv (.int .i64 0) (.int .i64 (iT b)) (by simp[HV.close,HV.closeL,po0,Po.cv,CV.denil,CV.denilL,HV.norm,HV.toC,HV.toCL]) rfl (by simp) (by rw[e1,e2,e3];exact⟨rfl,rfl,rfl⟩)
 refine aK ?_;refine T0 (hK _ _ _ ?_);clear hK K;have he:iT b=0:=by simpa using hb
 clear hb;refine aC fun K hK=>Rg ?_;iterate 4 refine S0 ?_
 refine T2 (hK _ _ _ ?_);clear hK K;refine aC fun K hK=>Rg ?_;refine S0 ?_;refine HS rfl rfl fun K' hK'=>T5 ?_;refine eJ (args:=[]) (bT2 (fT b) (by omega)) rfl (by simp) ⟨rfl,rfl,rfl,rfl⟩ ?_;rintro u x v' ⟨q,rfl,rfl,rfl,hq⟩;refine AX (hK' _ _ ?_);clear hK' K';iterate 5 refine S0 ?_
 refine T2 (hK _ _ _ ?_);clear hK K;refine aC fun K hK=>?_;refine R0 ?_;refine aG (b:=!(rdP (fT b)).1.isSome) rfl (fun hb=>?_) (fun hb=>?_)
 ·
  have hno:(rdP (fT b)).1=none:=by simpa using hb
  have e1:dpE b=2:=by rw[dpE,if_neg (by simpa using he),hno]
  have e2:dpL b=(fT b).length-(rdP (fT b)).2.length:=by
   rw[dpL,if_neg (by simpa using he)]
   match h:rdP (fT b)with
   |(none,r)=>rfl
   |(some p,r)=>rw[h]at hno;cases hno
  have e3:dpO b=po0:=by rw[dpO,e1,if_neg (by decide)]
  clear hb;refine aC fun K hK=>DW [(0,[],[]),(1,[],[]),(2,[],[]),(3,[],[]),(4,[],[]),(5,[],[1,2,3,4]),(6,[],[]),(7,[],[])] [0,0,2,6,14,1,63,127] ?_;iterate 8 refine W0 ?_ (e:=fun _ h_=>by simp only[sH,↓sP,sA,tyS,simprocAttr,rdr];exact AX h_)
  refine T2 (hK _ _ _ ?_);clear hK K;refine aF (RT Tryz.results32 ?_);exact iQ [] po0.cv (.int .i64 ((fT b).length-(rdP (fT b)).2.length:Nat)) (.int .i64 2) (by simp[HV.close,HV.closeL,po0,Po.cv,CV.denil,CV.denilL,HV.norm,HV.toC,HV.toCL]) rfl (by simp) (by rw[e1,e2,e3];exact⟨rfl,rfl,rfl⟩)
 refine aK ?_;refine T0 (hK _ _ _ ?_);clear hK K;refine aC fun K hK=>?_;obtain⟨p,hp⟩: ∃p,(rdP (fT b)).1=some p:=by
  cases h:(rdP (fT b)).1 with
  |none=>rw[h]at hb;simp at hb
  |some p=>exact⟨p,rfl⟩
 obtain rfl:=hq p hp;have hsz:=cK6 (cB1 b) (by omega) hp;have hr:rdP (fT b)=(some q,(rdP (fT b)).2):=Prod.ext hp rfl;have hiff:=cE6 he hr;have e1:dpE b=if eU q then 0 else 1:=by rw[dpE,if_neg (by simpa using he),hp]
 have e2:dpL b=0:=by rw[dpL,if_neg (by simpa using he),hr]
 clear hb;refine aC fun K hK=>Rg ?_;refine S0 ?_;refine HS rfl rfl fun K' hK'=>T5 ?_;refine nL (args:=[_]) 0 (aG3 q hsz) rfl (by simp) ⟨rfl,rfl,rfl,rfl⟩ ?_;rintro u v ⟨rfl,rfl⟩;refine AX (hK' _ _ ?_);clear hK' K';iterate 5 refine S0 ?_
 refine T2 (hK _ _ _ ?_);clear hK K;refine aC fun K hK=>Rg ?_;have F:=aI @cX @denilL_u8;iterate 3 refine SF ?_
 refine aE 40 rfl (fun h9_40=>?_) (fun h9_40=>?_)
 ·
  have F:=aI @cX (aI @denilL_u8 h9_40);iterate 5 refine SF ?_
  refine T2 (hK _ _ _ ?_);clear hK K;refine CT rfl ?_;refine aC fun K hK=>Rg ?_;have F:=h9_40;iterate 4 refine SF ?_
  refine T2 (hK _ _ _ ?_);clear hK K;refine aF (RT Tryz.results32 ?_);have hpo:eU q=false:=by
   cases h:eU q with
   |false=>rfl
   |true=>exact absurd (hiff.2 h).1 (by simpa using h9_40)
  rw[hpo]at e1;have e1:dpE b=1:=e1;have e3:dpO b=po0:=by rw[dpO,e1,if_neg (by decide)]
  exact iQ [] po0.cv (.int .i64 0) (.int .i64 1) (by simp[HV.close,HV.closeL,po0,Po.cv,CV.denil,CV.denilL,HV.norm,HV.toC,HV.toCL]) rfl (by simp) (by rw[e1,e2,e3];exact⟨rfl,rfl,rfl⟩)
 have F:=aI @cX (aI @denilL_u8 h9_40);iterate 2 refine SF ?_
 refine bE (g:=some (41,false)) rfl rfl fun K' hK'=>T6 ?_;refine C2 (bI0 (oV q) b) ?_;rintro u rfl;refine AX (hK' _ _ ?_);clear hK' K';iterate 2 refine SF ?_
 refine aE 44 rfl (fun h9_44=>?_) (fun h9_44=>?_)
 ·
  simp only[h9_44];refine T2 (hK _ _ _ ?_);clear hK K;refine CF rfl ?_;refine aK ?_;refine T0 (hK _ _ _ ?_);clear hK K;refine aC fun K hK=>Rg ?_;have F:=aI h9_40 h9_44;iterate 4 refine SF ?_
  refine T2 (hK _ _ _ ?_);clear hK K;refine aF (RT Tryz.results32 ?_);have hpo:eU q=true:=hiff.1 ⟨by simpa using h9_40,by simpa using h9_44⟩;rw[hpo]at e1;have e1:dpE b=0:=e1;have e3:dpO b=q:=by rw[dpO,if_pos e1,hp];rfl
  exact iQ [] q.cv (.int .i64 0) (.int .i64 0) (by simp[HV.close,HV.closeL,Po.denil,CV.denil,CV.denilL,HV.norm,HV.toC,HV.toCL]) rfl (by simp) (by rw[e1,e2,e3];exact⟨rfl,rfl,rfl⟩)
 simp only[h9_44];refine T2 (hK _ _ _ ?_);clear hK K;refine CT rfl ?_;refine aC fun K hK=>Rg ?_;have F:=aI h9_40 h9_44;iterate 4 refine SF ?_
 refine T2 (hK _ _ _ ?_);clear hK K;refine aF (RT Tryz.results32 ?_);have hpo:eU q=false:=by
  cases h:eU q with
  |false=>rfl
  |true=>exact absurd (hiff.2 h).2 (by simpa using h9_44)
 rw[hpo]at e1;have e1:dpE b=1:=e1;have e3:dpO b=po0:=by rw[dpO,e1,if_neg (by decide)]
 exact iQ [] po0.cv (.int .i64 0) (.int .i64 1) (by simp[HV.close,HV.closeL,po0,Po.cv,CV.denil,CV.denilL,HV.norm,HV.toC,HV.toCL]) rfl (by simp) (by rw[e1,e2,e3];exact⟨rfl,rfl,rfl⟩)
theorem aG4 (n:Int):cA Tryz.prog 49 [.int .i64 n] (fun v=>v=(aM5 n).cv):=by
 refine FW Tryz.func49 ?_;refine R0 ?_;refine aC fun K hK=>Rg ?_;iterate 4 refine S0 ?_
 refine T2 (hK _ _ _ ?_);clear hK K;refine aF (RT Tryz.results49 ?_);exact aJ [] (aM5 n).cv rfl rfl
theorem bT8 :PoSz awP:=⟨by decide,by decide,by decide,by decide⟩
theorem bT9 : ∀n∈awT,n.q.t.length<2^63:=by decide
theorem bU0 :sU awP=0:=by decide+kernel
theorem cG1 :(oV awP).length<2^40:=by decide+kernel
theorem aP4 :lX Tryz.prog 22 tabs [] (fun v=>v= .bool true):=by
 refine bT (args:=[]) Tryz.func22 rfl (by kernel_rfl) (fP tabs []) (Nat.le_of_ble_eq_true rfl) ?_;unfold eT;obtain⟨aw1,aw2,aw3⟩:=bF5 bU0;refine R0 ?_;refine aC fun K hK=>bA (by kernel_rfl) ?_;simp only[sR,simprocAttr];refine SG0 ?_;refine bM (g:=none) rfl rfl fun K' hK'=>T5 ?_;refine C1 (aG4 1) ?_;rintro u rfl;refine AX (hK' _ _ ?_);clear hK' K';refine bM (g:=none) rfl rfl fun K' hK'=>T5 ?_;refine C1 (aG4 2) ?_;rintro u rfl;refine AX (hK' _ _ ?_);clear hK' K';refine bM (g:=none) rfl rfl fun K' hK'=>T5 ?_;refine C1 (aG4 3) ?_;rintro u rfl;refine AX (hK' _ _ ?_);clear hK' K';refine cF (g:=none) 21 rfl rfl fun K' hK'=>?_;simp only[eG,fS,sH,↓sP,sA,tyS,simprocAttr];repeat refine AI ?_
 refine bV (by first|rfl|simp) ?_;try simp only[sH,↓sP,sA,tyS,simprocAttr]
 refine AX (hK' _ _ ?_);clear hK' K';refine SG0 ?_;refine T2 (hK _ _ _ ?_);clear hK K;refine aC fun K hK=>bA (by kernel_rfl) ?_;simp only[sR,simprocAttr];iterate 2 refine SG0 ?_
 refine cF (g:=none) 37 rfl rfl fun K' hK'=>?_;simp only[eG,fS,sH,↓sP,sA,tyS,simprocAttr];repeat refine AI ?_
 refine bV (by first|rfl|simp) ?_;try simp only[sH,↓sP,sA,tyS,simprocAttr]
 refine AX (hK' _ _ ?_);clear hK' K';iterate 3 refine SG0 ?_
 refine T2 (hK _ _ _ ?_);clear hK K;refine aC fun K hK=>Rg ?_;refine S0 ?_;refine HS rfl rfl fun K' hK'=>T5 ?_;refine nL (args:=[_]) 0 (aG3 awP bT8) rfl (by simp) ⟨rfl,rfl,rfl,rfl⟩ ?_;rintro u v ⟨rfl,rfl⟩;rw[bU0];refine AX (hK' _ _ ?_);clear hK' K';iterate 5 refine S0 ?_
 refine T2 (hK _ _ _ ?_);clear hK K;refine aC fun K hK=>Rg ?_;have F:=@cX;refine SF ?_;refine HS rfl rfl fun K' hK'=>T6 ?_;refine aP3 (args:=[_]) 0 (cB2 (oV awP) cG1) rfl (by simp) ⟨rfl,rfl,rfl,rfl⟩ ?_;rintro u v x ⟨rfl,rfl,rfl⟩;rw[aw1,aw2,aw3];refine AX (hK' _ _ ?_);clear hK' K';iterate 8 refine SF ?_
 refine T2 (hK _ _ _ ?_);clear hK K;refine aC fun K hK=>bA (by kernel_rfl) ?_;simp only[sR,simprocAttr];have F:=aI @List.length_map.{0,0} (aI @lK (aI @qX (show awP.r.length=1 from rfl)));refine SGF ?_;refine bM (g:=none) rfl rfl fun K' hK'=>T6 ?_;refine C1 (uQ awT bT9) ?_;rintro u rfl;rw[cE7];refine AX (hK' _ _ ?_);clear hK' K';iterate 2 refine SGF ?_
 refine bM (g:=some (30,true)) rfl rfl fun K' hK'=>T6 ?_;refine C1 (oS awP bT8) ?_;rintro u rfl;rw[cE8];refine AX (hK' _ _ ?_);clear hK' K';iterate 17 refine SGF ?_
 refine cF (g:=some (48,true)) 209 rfl rfl fun K' hK'=>?_;simp only[eG,fS,sH,↓sP,sA,tyS,simprocAttr,List.length_map,lK,qX,(show awP.r.length=1 from rfl)];repeat refine AI ?_
 refine bV (by first|rfl|simp) ?_;try simp only[sH,↓sP,sA,tyS,simprocAttr,List.length_map,lK,qX,(show awP.r.length=1 from rfl)]
 refine AX (hK' _ _ ?_);clear hK' K';refine bM (g:=some (48,true)) rfl rfl fun K' hK'=>T6 ?_;refine C2 (bA5 awT bT9 [true,false,true] (by decide)) ?_;rintro u rfl;rw[bP3];refine AX (hK' _ _ ?_);clear hK' K';iterate 3 refine SGF ?_
 refine cF (g:=some (53,true)) 229 rfl rfl fun K' hK'=>?_;simp only[eG,fS,sH,↓sP,sA,tyS,simprocAttr,List.length_map,lK,qX,(show awP.r.length=1 from rfl)];repeat refine AI ?_
 refine bV (by first|rfl|simp) ?_;try simp only[sH,↓sP,sA,tyS,simprocAttr,List.length_map,lK,qX,(show awP.r.length=1 from rfl)]
 refine AX (hK' _ _ ?_);clear hK' K';refine bM (g:=some (53,true)) rfl rfl fun K' hK'=>T6 ?_;refine C2 (bA5 awT bT9 [true] (by decide)) ?_;rintro u rfl;rw[bP4];refine AX (hK' _ _ ?_);clear hK' K';iterate 4 refine SGF ?_
 refine bM (g:=some (59,true)) rfl rfl fun K' hK'=>T6 ?_;refine C3 (bZ4 awP bT8 [112,114,111,100,47,101,117] [119,101,98]) ?_;rintro u rfl;rw[cE9];refine AX (hK' _ _ ?_);clear hK' K';iterate 4 refine SGF ?_
 refine bM (g:=some (64,true)) rfl rfl fun K' hK'=>T6 ?_;refine C1 (aA4 awT bT9) ?_;rintro u rfl;refine AX (hK' _ _ ?_);clear hK' K';iterate 5 refine SGF ?_
 refine bM (g:=some (70,true)) rfl rfl fun K' hK'=>T6 ?_;refine C2 (aN6 awT bT9 0) ?_;rintro u rfl;refine AX (hK' _ _ ?_);clear hK' K';iterate 4 refine SGF ?_
 refine T2 (hK _ _ _ ?_);clear hK K;refine aF (RT Tryz.results22 ?_);exact dS [] (.bool true) rfl rfl (by simp) rfl
structure PoTy (p:Po):Prop where
 n:p.n.length<2^63
 r:p.r.length<2^63
 a: ∀r∈p.r,r.a.length<2^63
 t: ∀r∈p.r,∀n∈r.t,n.q.t.length<2^63
theorem PoTy.sz {p:Po}(h:PoTy p)(hf:Few p):PoSz p:=⟨h.n,by have:=hf.r;omega,h.a,h.t⟩
theorem mG (l:List Pr):CV.denilL (l.map Pr.cv)=l.map Pr.cv:=denilL_Pr l
end Go.Proofs.YtlldglbooaefhaaGreatDoor
