/- Plain Lean: the rows that Eval makes (28.6). By an AI agent. -/
import Derived.Test.YtlldglbooaefhaaGreatDoorHzU1
import Derived.Test.YtlldglbooaefhaaGreatDoorPl28r
import Derived.Test.YtlldglbooaefhaaGreatDoorHlTlaw
import Derived.Test.YtlldglbooaefhaaGreatDoorHzUh
import Derived.Test.YtlldglbooaefhaaGreatDoorPl11u
import Derived.Test.YtlldglbooaefhaaGreatDoorHzTm
import Derived.Test.YtlldglbooaefhaaGreatDoorPl28q
import Derived.Test.YtlldglbooaefhaaGreatDoorHlIt
import Derived.Test.YtlldglbooaefhaaGreatDoorHzTc
import Derived.Test.YtlldglbooaefhaaGreatDoorPl28j
set_option linter.unusedSimpArgs false
set_option linter.unusedVariables false
set_option linter.defProp false
namespace Go.Proofs.YtlldglbooaefhaaGreatDoor
open Go Go.Hl Go.Pl
set_option maxRecDepth 10000
set_option maxHeartbeats 16000000
theorem cC4 (q:Rq)(hn:cC1 q.n)(hm:cC1 q.m):bS Tryz.prog 82 [q.cv] (fun v=>v=lsC (wlR q)):=by
 refine FW Tryz.func82 ?_;refine R0 ?_;refine aC fun K hK=>DW [(0,[],[]),(1,[],[]),(3,[],[]),(4,[],[]),(2,[],[3,4]),(5,[],[]),(6,[],[]),(7,[],[])] [0,1,3,0,8,31,63,127] ?_;iterate 4 refine W0 ?_
 refine cF (g:=none) rfl rfl fun K' hK'=>T5 ?_;refine C1 (rS q.n hn) ?_;rintro u rfl;refine AX (hK' _ _ ?_);clear hK' K';refine cF (g:=none) rfl rfl fun K' hK'=>T5 ?_;refine C1 (rS q.m hm) ?_;rintro u rfl;refine AX (hK' _ _ ?_);clear hK' K';iterate 2 refine W0 ?_
 refine T2 (hK _ _ _ ?_);clear hK K;refine aC fun K hK=>?_;refine R0 ?_;refine aL ?_;refine R0 ?_;refine aG (b:=(q.k==1)) rfl (fun hb=>?_) (fun hb=>?_)
 ·
  have hk:q.k=1:=by simpa using hb
  clear hb;refine R0 ?_;refine aF (RT Tryz.results82 ?_);exact aH [60] (lsC (wlR q)) (by rw[show wlR q=[dI,numW q.n]from by simp[wlR, *]];simp[lsC,HV.close,fob_at,upd_at,HV.norm,HV.toC,HV.closeL,HV.toCL,CV.denil];rfl) rfl
 have hk1: ¬q.k=1:=by simpa using hb
 clear hb;refine R0 ?_;refine aG (b:=(q.k==2)) rfl (fun hb=>?_) (fun hb=>?_)
 ·
  have hk:q.k=2:=by simpa using hb
  clear hb;refine aC fun K hK=>Rg ?_;iterate 4 refine S0 ?_
  refine T2 (hK _ _ _ ?_);clear hK K;refine aF (RT Tryz.results82 ?_);exact aH [72] (lsC (wlR q)) (by rw[show wlR q=[dX,q.t]from by simp[wlR, *]];simp[lsC,HV.close,fob_at,upd_at,HV.norm,HV.toC,HV.closeL,HV.toCL,CV.denil];rfl) rfl
 have hk2: ¬q.k=2:=by simpa using hb
 clear hb;refine R0 ?_;refine aG (b:=(q.k==3)) rfl (fun hb=>?_) (fun hb=>?_)
 ·
  have hk:q.k=3:=by simpa using hb
  clear hb;refine R0 ?_;refine aF (RT Tryz.results82 ?_);exact aH [76] (lsC (wlR q)) (by rw[show wlR q=[dR,numW q.n]from by simp[wlR, *]];simp[lsC,HV.close,fob_at,upd_at,HV.norm,HV.toC,HV.closeL,HV.toCL,CV.denil];rfl) rfl
 have hk3: ¬q.k=3:=by simpa using hb
 clear hb;refine R0 ?_;refine aG (b:=(q.k==4)) rfl (fun hb=>?_) (fun hb=>?_)
 ·
  have hk:q.k=4:=by simpa using hb
  clear hb;refine aC fun K hK=>Rg ?_;iterate 4 refine S0 ?_
  refine T2 (hK _ _ _ ?_);clear hK K;refine aF (RT Tryz.results82 ?_);exact aH [88] (lsC (wlR q)) (by rw[show wlR q=[eQ,numW q.n,numW q.m]from by simp[wlR, *]];simp[lsC,HV.close,fob_at,upd_at,HV.norm,HV.toC,HV.closeL,HV.toCL,CV.denil];rfl) rfl
 have hk4: ¬q.k=4:=by simpa using hb
 clear hb;refine R0 ?_;refine aG (b:=(q.k==5)) rfl (fun hb=>?_) (fun hb=>?_)
 ·
  have hk:q.k=5:=by simpa using hb
  clear hb;refine R0 ?_;refine aF (RT Tryz.results82 ?_);exact aH [92] (lsC (wlR q)) (by rw[show wlR q=[gE,numW q.n]from by simp[wlR, *]];simp[lsC,HV.close,fob_at,upd_at,HV.norm,HV.toC,HV.closeL,HV.toCL,CV.denil];rfl) rfl
 have hk5: ¬q.k=5:=by simpa using hb
 clear hb;refine R0 ?_;refine aG (b:=(q.k==6)) rfl (fun hb=>?_) (fun hb=>?_)
 ·
  have hk:q.k=6:=by simpa using hb
  clear hb;refine R0 ?_;refine aF (RT Tryz.results82 ?_);exact aH [100] (lsC (wlR q)) (by rw[show wlR q=[jY,numW q.n]from by simp[wlR, *]];simp[lsC,HV.close,fob_at,upd_at,HV.norm,HV.toC,HV.closeL,HV.toCL,CV.denil];rfl) rfl
 have hk6: ¬q.k=6:=by simpa using hb
 clear hb;refine R0 ?_;refine aG (b:=(q.k==7)) rfl (fun hb=>?_) (fun hb=>?_)
 ·
  have hk:q.k=7:=by simpa using hb
  clear hb;refine R0 ?_;refine aF (RT Tryz.results82 ?_);exact aH [108] (lsC (wlR q)) (by rw[show wlR q=[kY,numW q.n]from by simp[wlR, *]];simp[lsC,HV.close,fob_at,upd_at,HV.norm,HV.toC,HV.closeL,HV.toCL,CV.denil];rfl) rfl
 have hk7: ¬q.k=7:=by simpa using hb
 clear hb;refine aK ?_;refine T0 (hK _ _ _ ?_);clear hK K;refine R0 ?_;refine aF (RT Tryz.results82 ?_);exact aH [104] (lsC (wlR q)) (by rw[show wlR q=[gZ]from by simp[wlR, *]];simp[lsC,HV.close,fob_at,upd_at,HV.norm,HV.toC,HV.closeL,HV.toCL,CV.denil];rfl) rfl
theorem lV (l:List (List aJ)):(∀v∈l.map lsC,v.cells=1)=True:=eq_true fun v h=>by obtain⟨d,_,rfl⟩:=List.mem_map.1 h;exact eU d
theorem bU9 (l:List Nd)(ht:IsTree l)(m:Nat): ∀(i:Nat) (hi:i<l.length),l.length-i≤m→
  fR Tryz.prog 55 [.slc (l.map Nd.cv),.int .i64 i] (fun u v=>u= .slc ((eR l i).map lsC)∧v= .int .i64 (aft l i:Nat)):=by
 induction m using Nat.strongRecOn with
 |ind m ih=>?_
 intro i hi hfu;have hnode:=ht.node _ (List.getElem_mem hi);obtain⟨c1,c2,c3,c4⟩:=dG hnode;have hll:=ht.len;have hwi:IntKind.i64.wrap ((i:Int)+1)=((i+1:Nat):Int):=IntWalk.i64_in _ (by omega);obtain⟨a1,a2,a3⟩:=iM ht hi;refine FW Tryz.func55 ?_;refine R0 ?_;refine aC fun K hK=>Rg ?_;have F:=aI @Int.natCast_nonneg (aI @Int.ofNat_lt (aI hi (nM hi)));iterate 6 refine SF ?_
 refine T2 (hK _ _ _ ?_);clear hK K;refine aC fun K hK=>?_;refine R0 ?_;refine aG (b:=(l[i].k==1)) rfl (fun hb=>?_) (fun hb=>?_)
 ·
  have hk:l[i].k=1:=by simpa using hb
  obtain⟨⟨r1,r2⟩,r3,r4⟩:=aP6 (bB1 hnode hk);clear hb;refine aC fun K hK=>Rg ?_;have F:=aI hwi (aI @eI @eU);iterate 2 refine SF ?_
  refine HS rfl rfl fun K' hK'=>T6 ?_;refine C1 (cC4 l[i].q ⟨by omega,by omega⟩ ⟨by omega,by omega⟩) ?_;rintro u rfl;refine AX (hK' _ _ ?_);clear hK' K';iterate 5 refine SF ?_
  refine T2 (hK _ _ _ ?_);clear hK K;refine aF (RT Tryz.results55 ?_);exact aR [56] (.slc ((eR l i).map lsC)) (.int .i64 (aft l i:Nat)) (by rw[pP hi hk,xV ht hi hk];simp[HV.close,fob_at,upd_at,HV.norm,HV.toC,HV.closeL,HV.toCL,eI,CV.denilL,CV.denil]) ⟨rfl,rfl⟩
 have hk1:l[i].k≠1:=by simpa using hb
 clear hb;refine aK ?_;refine T0 (hK _ _ _ ?_);clear hK K;refine aC fun K hK=>bD (by kernel_rfl) ?_;simp only[sR,simprocAttr];refine bZ (g:=none) 44 rfl rfl fun K' hK'=>?_;simp only[eN,iD,sH,↓sP,sA,tyS,simprocAttr];repeat refine AI ?_
 refine cB (by first|rfl|simp) ?_;try simp only[sH,↓sP,sA,tyS,simprocAttr]
 refine AX (hK' _ _ ?_);clear hK' K';iterate 2 refine SG0 ?_
 refine T2 (hK _ _ _ ?_);clear hK K;refine aC fun K hK=>?_;have key: ∀(A:Nat) (w:List aJ) fr ob nx,A<nx→nx≤300→w=(if l[i].k=3 then [lO]else [lN])→Fits 0 (mvF A 300 fr) (mvO A 300 ob) (fin [(0,.c (.slc (l.map Nd.cv))),(1,.c (.int .i64 i)),(6,.ptr 24 0),(7,.own 300 1)]) (fob [(24,.box 40 (.c l[i].cv)),(300,.row 60 1 [lsC w])]) 301→K fr ob nx:=by
  rintro A w fr ob nx hA hnx rfl hf;refine hK _ _ _ (cE2 A 300 (by omega) hA hnx (bH hf ?_));clear hf hK K;refine aC fun K hK=>?_;have key2: ∀(A:Nat) (w:List aJ) fr ob nx,A<nx→nx≤600→w=wlN l[i]→Fits 0 (mvF A 600 fr) (mvO A 600 ob) (fin [(0,.c (.slc (l.map Nd.cv))),(1,.c (.int .i64 i)),(6,.ptr 24 0),(7,.own 600 1)]) (fob [(24,.box 40 (.c l[i].cv)),(600,.row 60 1 [lsC w])]) 601→K fr ob nx:=by
   rintro A w fr ob nx hA hnx rfl hf;refine hK _ _ _ (cE2 A 600 (by omega) hA hnx (bH hf ?_));clear hf hK K;have F:=hwi;refine RF ?_;refine aC fun K hK=>?_;refine R0 ?_;refine aL ?_;refine bF (α:={k:Nat//k≤l[i].c.toNat}) (fun k=>(fin [(0,.c (.slc (l.map Nd.cv))),(1,.c (.int .i64 (cX l k.1 (i+1):Nat))),(6,.ptr 24 0),(7,.own 600 ((cU l i k.1).length+1)),(8,.c (.int .i64 k.1))],fob [(24,.box 40 (.c l[i].cv)),(600,.row 60 1 ((wlN l[i]::cU l i k.1).map lsC))])) 2000 (fun k=>l[i].c.toNat-k.1) ⟨0,by omega⟩ (aN (by omega) (by simp[aW,fin_at,finA_at,upd_at,HV.men,HV.menL,HV.norm,HV.toC,HV.toCL,iA,cX]) (by simp[aY,fob_at,upd_at,none0_at,bX,HO.men,HV.men,HV.menL,HV.norm,HV.toC,HV.toCL,iA,cX])) ?_;rintro⟨k,hk⟩;obtain⟨k1,k2,k3⟩:=gN ht hi k hk;have hkl:=uL ht hi hk hk1;refine aC fun K hK=>?_;refine aC fun K hK=>Rg ?_;iterate 4 refine S0 ?_
   refine T2 (hK _ _ _ ?_);clear hK K;refine aG (b:=decide ((k:Int)<l[i].c)) rfl (fun hb=>?_) (fun hb=>?_)
   ·
    have hlt:k<l[i].c.toNat:=by simp at hb;omega
    have hkid:=lK ht hi hlt;clear hb;refine aK ?_;refine T0 (hK _ _ _ ?_);clear hK K;refine aC fun K hK=>?_;refine aL ?_;refine aC fun K hK=>Rg ?_;iterate 2 refine S0 ?_
    refine HS rfl rfl fun K' hK'=>T5 ?_;refine D2 (ih (l.length-cX l k (i+1)) (by omega) (cX l k (i+1)) hkid (by omega)) ?_;rintro u v ⟨rfl,rfl⟩;refine AX (hK' _ _ ?_);clear hK' K';iterate 5 refine S0 ?_
    refine T2 (hK _ _ _ ?_);clear hK K;have hl2:=xW ht hkid;have hw1:(cU l i k).length+1+(eR l (cX l k (i+1))).length≤300:=by
     have:=(iM ht hkid).2.1;omega
    have hb1:((cU l i k).length+1+(eR l (cX l k (i+1))).length)*24≤140737488355328:=by omega
    have hb2:(cU l i k).length+1+(eR l (cX l k (i+1))).length≤maxLen:=by unfold maxLen;omega
    refine Rg ?_;have F:=aI @lV (aI hb1 hb2);iterate 6 refine SF ?_
    refine T2 (hK _ _ _ ?_);clear hK K;refine aM (by kernel_rfl) ?_;refine TQ (IntWalk.i64_in ((k:Int)+1) (by omega)) ?_;refine⟨⟨k+1,hlt⟩,?_,?_⟩
    · simp only[];rw[mK ht hi hlt,fJ];exact fF
    show l[i].c.toNat-(k+1)<l[i].c.toNat-k;omega
   refine bA (T3 ?_);clear hK K;refine AX (hK _ _ _ ?_);clear hK K;have hke:k=l[i].c.toNat:=by simp at hb;omega
   subst hke;rw[rR ht hi]at hkl k3⊢;clear hb;refine aC fun K hK=>bD (by kernel_rfl) ?_;simp only[sR,simprocAttr];have F:=aI @eI @eU;refine SGF ?_;refine bZ (g:=none) 2020 rfl rfl fun K' hK'=>?_;simp only[eN,iD,sH,↓sP,sA,tyS,simprocAttr,eI,eU];repeat refine AI ?_
   refine cB (by first|rfl|simp) ?_;try simp only[sH,↓sP,sA,tyS,simprocAttr,eI,eU]
   refine AX (hK' _ _ ?_);clear hK' K';iterate 5 refine SGF ?_
   refine T2 (hK _ _ _ ?_);clear hK K;refine aF (RT Tryz.results55 ?_);exact aR [600] (.slc ((eR l i).map lsC)) (.int .i64 (aft l i:Nat)) (by rw[nV ht hi hk1];simp[HV.close,fob_at,upd_at,HV.norm,HV.toC,HV.closeL,HV.toCL,aQ,eI,CV.denilL,CV.denil,lsC,wEnd]) ⟨rfl,rfl⟩
  refine R0 ?_;refine aG (b:=_) rfl (fun hb=>?_) (fun hb=>?_)
  ·
   have hk4:l[i].k=4:=by simpa using hb
   have hnn:=bB2 hnode hk4;clear hb;refine bD (by kernel_rfl) ?_;simp only[sR,simprocAttr];iterate 2 refine SG0 ?_
   refine bJ (g:=none) rfl rfl fun K' hK'=>T5 ?_;refine C1 (rS l[i].n ⟨by omega,by omega⟩) ?_;rintro u rfl;refine AX (hK' _ _ ?_);clear hK' K';refine bZ (g:=none) 325 rfl rfl fun K' hK'=>?_;simp only[eN,iD,sH,↓sP,sA,tyS,simprocAttr];repeat refine AI ?_
   refine cB (by first|rfl|simp) ?_;try simp only[sH,↓sP,sA,tyS,simprocAttr]
   refine AX (hK' _ _ ?_);clear hK' K';iterate 2 refine SG0 ?_
   refine T4 ?_;exact key2 329 [cO,numW l[i].n] _ _ _ (by omega) (by omega) (by simp[wlN,hk4]) (aN (by omega) (by simp[aW,fin_at,finA_at,upd_at,HV.men,HV.menL,HV.norm,HV.toC,HV.toCL,mvF,mvO,mvN,HV.ren,HO.ren,lsC,cO]) (by simp[aY,fob_at,upd_at,none0_at,bX,HO.men,HV.men,HV.menL,HV.norm,HV.toC,HV.toCL,mvF,mvO,mvN,HV.ren,HO.ren,lsC,cO]))
  refine aK (T3 ?_);have hk4:l[i].k≠4:=by simpa using hb
  exact key2 300 (if l[i].k=3 then [lO]else [lN]) _ _ _ (by omega) (by omega) (by
   by_cases h3:l[i].k=3
   · simp[wlN,h3]
   have h2:l[i].k=2:=by
    apply Classical.byContradiction;exact fun h=>hk4 (bB0 hnode hk1 h h3)
   simp[wlN,h2]) (aN (by omega) (by simp[aW,fin_at,finA_at,upd_at,HV.men,HV.menL,HV.norm,HV.toC,HV.toCL,mvF,mvO,mvN,HV.ren,HO.ren]) (by simp[aY,fob_at,upd_at,none0_at,bX,HO.men,HV.men,HV.menL,HV.norm,HV.toC,HV.toCL,mvF,mvO,mvN,HV.ren,HO.ren]))
 refine R0 ?_;refine aG (b:=_) rfl (fun hb=>?_) (fun hb=>?_)
 ·
  refine bD (by kernel_rfl) ?_;simp only[sR,simprocAttr];refine bZ (g:=none) 68 rfl rfl fun K' hK'=>?_;simp only[eN,iD,sH,↓sP,sA,tyS,simprocAttr];repeat refine AI ?_
  refine cB (by first|rfl|simp) ?_;try simp only[sH,↓sP,sA,tyS,simprocAttr]
  refine AX (hK' _ _ ?_);clear hK' K';iterate 2 refine SG0 ?_
  refine T4 ?_;exact key 72 [lO] _ _ _ (by omega) (by omega) (by rw[if_pos (by simpa using hb)]) (aN (by omega) (by simp[aW,fin_at,finA_at,upd_at,HV.men,HV.menL,HV.norm,HV.toC,HV.toCL,mvF,mvO,mvN,HV.ren,HO.ren,lsC,lO]) (by simp[aY,fob_at,upd_at,none0_at,bX,HO.men,HV.men,HV.menL,HV.norm,HV.toC,HV.toCL,mvF,mvO,mvN,HV.ren,HO.ren,lsC,lO]))
 refine aK (T3 ?_);exact key 48 [lN] _ _ _ (by omega) (by omega) (by rw[if_neg (by simpa using hb)]) (aN (by omega) (by simp[aW,fin_at,finA_at,upd_at,HV.men,HV.menL,HV.norm,HV.toC,HV.toCL,mvF,mvO,mvN,HV.ren,HO.ren,lsC,lN]) (by simp[aY,fob_at,upd_at,none0_at,bX,HO.men,HV.men,HV.menL,HV.norm,HV.toC,HV.toCL,mvF,mvO,mvN,HV.ren,HO.ren,lsC,lN]))
theorem aC3 (ls:List (List aJ))(h0:ls.length<2^40)(h1: ∀l∈ls,l.length<2^40):fR Tryz.prog 37 [.slc (ls.map lsC)] (fun u v=>u= .slc ((iK ls).map cP)∧v= .int .i64 (gM ls)):=bB9 ls h0 h1
theorem cC5 (p:Po)(hp:PoSz p):fR Tryz.prog 28 [p.cv] (fun u v=>u= .slc ((kZ p).map cP)∧v= .int .i64 (oW p)):=by
 refine FW Tryz.func28 ?_;refine R0 ?_;refine aC fun K hK=>?_;refine aC fun K hK=>Rg ?_;refine S0 ?_;refine HS rfl rfl fun K' hK'=>T5 ?_;refine C1 (bI4 p hp) ?_;rintro u rfl;refine AX (hK' _ _ ?_);clear hK' K';refine S0 ?_;refine T2 (hK _ _ _ ?_);clear hK K;refine aG (b:=!eK p) rfl (fun hb=>?_) (fun hb=>?_)
 ·
  refine R0 ?_;refine aF (RT Tryz.results28 ?_);have hv:eK p=false:=by simpa using hb
  exact aR [] (.slc []) (.int .i64 1) (by simp[HV.close,HV.closeL,CV.denil,CV.denilL,HV.norm,HV.toC,HV.toCL]) ⟨by rw[kZ,hv];rfl,by rw[oW,hv];rfl⟩
 refine aK ?_;refine T0 (hK _ _ _ ?_);clear hK K;have hv:eK p=true:=by simpa using hb
 clear hb;obtain⟨⟨v1,v2⟩,hr16,_,hrules⟩:=oR hv;refine aC fun K hK=>eF mixed [(0,[],[]),(1,[],[]),(2,[],[]),(3,[],[]),(4,[],[0,1]),(5,[],[]),(6,[],[]),(7,[],[])] [0,1,0,4,12,31,63,127] (by kernel_rfl) (by kernel_rfl) (by kernel_rfl) (by kernel_rfl) rfl (by kernel_rfl) ?_;iterate 4 refine WG0 ?_
 refine fM (g:=none) rfl rfl fun K' hK'=>T5 ?_;refine C1 (rS p.v ⟨by omega,by omega⟩) ?_;rintro u rfl;refine AX (hK' _ _ ?_);clear hK' K';refine iR (g:=none) 44 rfl rfl fun K' hK'=>?_;simp only[eN,iD,sH,↓sP,sA,tyS,simprocAttr];repeat refine AI ?_
 refine cB (by first|rfl|simp) ?_;try simp only[sH,↓sP,sA,tyS,simprocAttr]
 refine AX (hK' _ _ ?_);clear hK' K';iterate 2 refine WG0 ?_
 refine T2 (hK _ _ _ ?_);clear hK K;refine aC fun K hK=>?_;refine R0 ?_;refine aL ?_;refine bF (α:={i:Nat//i≤p.r.length}) (fun i=>(fin [(1,.ptr 0 0),(4,.own 48 (kD p i.1).length),(5,.c (.int .i64 i.1))],fob [(0,.box 45 (.c p.cv)),(48,.row 60 1 ((kD p i.1).map lsC))])) 2000 (fun i=>p.r.length-i.1) ⟨0,by omega⟩ (aN (by omega) (by simp[aW,fin_at,finA_at,upd_at,HV.men,HV.menL,HV.norm,HV.toC,HV.toCL,kD,lsC,wPolicy]) (by simp[aY,fob_at,upd_at,none0_at,bX,HO.men,HV.men,HV.menL,HV.norm,HV.toC,HV.toCL,kD,lsC,wPolicy])) ?_;rintro⟨i,hi⟩;have hll:=xZ hrules i hi;have hl0:0<(kD p i).length:=by simp[kD]
 refine aC fun K hK=>?_;refine aC fun K hK=>Rg ?_;iterate 5 refine S0 ?_
 refine T2 (hK _ _ _ ?_);clear hK K;refine aG (b:=decide ((i:Int)<p.r.length)) rfl (fun hb=>?_) (fun hb=>?_)
 ·
  have hlt:i<p.r.length:=by simpa using hb
  clear hb;obtain⟨r,hr⟩: ∃r,r=p.r[i]:=⟨_,rfl⟩;have hrule:=hrules r (by rw[hr];exact List.getElem_mem hlt);obtain⟨⟨g1,g2⟩,ht,_⟩:=iB hrule;have ht0:0<r.t.length:=ht.ne;have htl:=ht.len;obtain⟨L,hL⟩: ∃L,L=kD p i:=⟨_,rfl⟩;rw[←hL]at hll hl0⊢;refine aK ?_;refine T0 (hK _ _ _ ?_);clear hK K;refine aC fun K hK=>?_;refine aL ?_;refine aC fun K hK=>Rg ?_;iterate 7 refine S0 ?_ (e:=fun _ h_=>by simp only[sH,↓sP,sA,tyS,simprocAttr,Int.natCast_nonneg,Int.ofNat_lt,hlt,bL hlt,←hr];exact AX h_)
  refine T2 (hK _ _ _ ?_);clear hK K;refine aC fun K hK=>eF mixed [(0,[],[]),(1,[],[]),(2,[],[]),(3,[],[]),(4,[],[]),(5,[],[]),(6,[],[]),(7,[],[]),(8,[],[]),(9,[],[0,1,2,3,4,5,6]),(10,[],[]),(11,[],[]),(12,[],[]),(13,[],[])] [0,0,2,0,8,0,32,0,128,384,1022,2046,4095,8191] (by kernel_rfl) (by kernel_rfl) (by kernel_rfl) (by kernel_rfl) rfl (by kernel_rfl) ?_;iterate 9 refine WG0 ?_
  refine fM (g:=none) rfl rfl fun K' hK'=>T5 ?_;refine C1 (rS r.g ⟨by omega,by omega⟩) ?_;rintro u rfl;refine AX (hK' _ _ ?_);clear hK' K';refine iR (g:=none) 2088 rfl rfl fun K' hK'=>?_;simp only[eN,iD,sH,↓sP,sA,tyS,simprocAttr];repeat refine AI ?_
  refine cB (by first|rfl|simp) ?_;try simp only[sH,↓sP,sA,tyS,simprocAttr]
  refine AX (hK' _ _ ?_);clear hK' K';iterate 3 refine WG0 ?_
  refine T2 (hK _ _ _ ?_);clear hK K;obtain⟨M,hM⟩: ∃M,M=L++[[wRule,r.a,r.b,r.c,numW r.g]]:=⟨_,rfl⟩;have hMm:List.map lsC L++[CV.slc [CV.str [114,117,108,101],CV.str r.a,CV.str r.b,CV.str r.c,CV.str (numW r.g)]]=List.map lsC M:=by rw[hM];simp[lsC,wRule]
  have hMl:L.length+1=M.length:=by rw[hM];simp
  rw[hMm];simp only[List.length_map];refine aC fun K hK=>Rg ?_;iterate 2 refine S0 ?_
  refine HS rfl rfl fun K' hK'=>T5 ?_;refine D2 (bU9 r.t ht r.t.length 0 ht0 (by omega)) ?_;rintro u v ⟨rfl,rfl⟩;refine AX (hK' _ _ ?_);clear hK' K';iterate 5 refine S0 ?_
  refine T2 (hK _ _ _ ?_);clear hK K;have hl2:=xW ht ht0;have ha2:=(iM ht ht0).2.1;have hw1:M.length+(eR r.t 0).length≤100000:=by omega
  have hb1:(M.length+(eR r.t 0).length)*24≤140737488355328:=by omega
  have hb2:M.length+(eR r.t 0).length≤maxLen:=by unfold maxLen;omega
  refine Rg ?_;have F:=aI @lV (aI hb1 (aI hb2 @List.length_map.{0,0}));iterate 4 refine SF ?_
  refine T2 (hK _ _ _ ?_);clear hK K;refine aM (by kernel_rfl) ?_;refine TQ (IntWalk.i64_in ((i:Int)+1) (by omega)) ?_;refine⟨⟨i+1,hlt⟩,?_,?_⟩
  ·
   have e1:kD p (i+1)=M++eR r.t 0:=by rw[tK hlt,hM,hL,pY,←hr];simp[gB]
   simp only[];rw[e1];exact fF
  show p.r.length-(i+1)<p.r.length-i;omega
 refine bA (T3 ?_);clear hK K;refine AX (hK _ _ _ ?_);clear hK K;have hei:i=p.r.length:=by simp at hb;omega
 subst hei;clear hb;rw[rT];refine dV [48] (bH (fr2:=fin [(4,.c (.slc ((dS p).map lsC)))]) (ob2:=fob []) (nx2:=3000) (aN (by omega) (by simp[aW,gJ,fin_at,finA_at,upd_at,fob_at,HV.close,HV.closeL,CV.denil,CV.denilL,aQ,HV.men,HV.menL,HV.norm,HV.toC,HV.toCL]) (by simp[aY,gK,fob_at,upd_at,none0_at,bX,HO.close,HV.close,HV.closeL,HO.men,HV.men,HV.menL,HV.norm,HV.toC,HV.toCL])) ?_);rw[rT]at hll;refine aC fun K hK=>Rg ?_;have F:=@aQ;refine SF ?_;refine HS rfl rfl fun K' hK'=>T6 ?_;refine D1 (aC3 (dS p) (by omega) (bC0 p)) ?_;rintro u v ⟨rfl,rfl⟩;refine AX (hK' _ _ ?_);clear hK' K';iterate 4 refine SF ?_
 refine T2 (hK _ _ _ ?_);clear hK K;refine aF (RT Tryz.results28 ?_);exact aR [] (.slc ((iK (dS p)).map cP)) (.int .i64 (gM (dS p))) (by simp[HV.close,HV.closeL,CV.denil,CV.denilL,cM,HV.norm,HV.toC,HV.toCL]) ⟨by rw[kZ,if_pos hv],by rw[oW,if_pos hv]⟩
theorem bV0 (ls:List (List aJ))(h0:ls.length<2^40)(h1: ∀l∈ls,l.length<2^40):fR Tryz.prog 53 [.slc (ls.map lsC)] (fun u v=>u= .slc ((iK ls).map cP)∧v= .int .i64 (gM ls)):=cF9 ls h0 h1
theorem aW1 (N n:Nat)(ob:Ob)(e:TypeId)(sz:Nat)(T:lI)(L:List CV):kG (sub [0,N] n) ob 0 [.tab T,.row e sz L]=upd (upd ob 0 (some (.tab T))) N (some (.row e sz L)):=rfl
theorem bC2 (p:Po)(hp:PoSz p):aY7 Tryz.prog 27 tabs [p.cv] (fun u v=>u= .slc ((kZ p).map cP)∧v= .int .i64 (oW p)):=by
 refine bQ (args:=[.c p.cv]) Tryz.func27 rfl (by kernel_rfl) (fO tabs [p.cv]) (Nat.le_of_ble_eq_true rfl) ?_;unfold eP;refine R0 ?_;refine aC fun K hK=>?_;refine aC fun K hK=>Rg ?_;refine S0 ?_;refine HS rfl rfl fun K' hK'=>T5 ?_;refine C1 (tI p hp) ?_;rintro u rfl;refine AX (hK' _ _ ?_);clear hK' K';refine S0 ?_;refine T2 (hK _ _ _ ?_);clear hK K;refine aG (b:=!eK p) rfl (fun hb=>?_) (fun hb=>?_)
 ·
  refine R0 ?_;refine aF (RT Tryz.results27 ?_);have hv:eK p=false:=by simpa using hb
  refine uD [] (.slc []) (.int .i64 1) ?_ rfl (by simp) ⟨by rw[kZ,hv];rfl,by rw[oW,hv];rfl⟩;simp[HV.close,HV.closeL,CV.denil,CV.denilL,HV.norm,HV.toC,HV.toCL]
 refine aK ?_;refine T0 (hK _ _ _ ?_);clear hK K;have hv:eK p=true:=by simpa using hb
 clear hb;obtain⟨⟨v1,v2⟩,hr16,_,hrules⟩:=oR hv;refine aC fun K hK=>eF mixed [(0,[],[]),(1,[],[]),(2,[],[]),(3,[],[]),(4,[],[0,1]),(5,[],[]),(6,[],[]),(7,[],[])] [0,1,0,4,12,31,63,127] (by kernel_rfl) (by kernel_rfl) (by kernel_rfl) (by kernel_rfl) rfl (by kernel_rfl) ?_;iterate 4 refine WG0 ?_
 refine fM (g:=none) rfl rfl fun K' hK'=>T5 ?_;refine fH (args:=[_]) 0 (xX p.v ⟨by omega,by omega⟩) rfl (by simp) ⟨rfl,rfl,rfl,rfl⟩ ?_;rintro u rfl;refine AX (hK' _ _ ?_);clear hK' K';refine iR (g:=none) 45 rfl rfl fun K' hK'=>?_;simp only[eN,iD,sH,↓sP,sA,tyS,simprocAttr];repeat refine AI ?_
 refine cB (by first|rfl|simp) ?_;try simp only[sH,↓sP,sA,tyS,simprocAttr]
 refine AX (hK' _ _ ?_);clear hK' K';iterate 2 refine WG0 ?_
 refine T2 (hK _ _ _ ?_);clear hK K;refine aC fun K hK=>?_;refine aC fun K hK=>Rg ?_;iterate 4 refine S0 ?_
 refine T2 (hK _ _ _ ?_);clear hK K;refine aL ?_;refine bF (α:={i:Nat//i≤p.r.length}) (fun i=>(fin [(4,.own 49 (kD p i.1).length),(18,.c (.slc (p.r.map Pr.cv))),(19,.c (.int .i64 p.r.length)),(20,.c (.int .i64 i.1))],fob [(0,.tab tabs),(49,.row 60 1 ((kD p i.1).map lsC))])) 2000 (fun i=>p.r.length-i.1) ⟨0,by omega⟩ (aN (by omega) (by simp[aW,fin_at,finA_at,upd_at,HV.men,HV.menL,HV.norm,HV.toC,HV.toCL,kD,lsC,wPolicy]) (by simp[aY,fob_at,upd_at,none0_at,bX,HO.men,HV.men,HV.menL,HV.norm,HV.toC,HV.toCL,kD,lsC,wPolicy])) ?_;rintro⟨i,hi⟩;have hll:=xZ hrules i hi;have hl0:0<(kD p i).length:=by simp[kD]
 refine R0 ?_;refine aC fun K hK=>?_;refine aG (b:=decide ((i:Int)<p.r.length)) rfl (fun hb=>?_) (fun hb=>?_)
 ·
  have hlt:i<p.r.length:=by simpa using hb
  clear hb;obtain⟨r,hr⟩: ∃r,r=p.r[i]:=⟨_,rfl⟩;have hrule:=hrules r (by rw[hr];exact List.getElem_mem hlt);obtain⟨⟨g1,g2⟩,ht,_⟩:=iB hrule;have ht0:0<r.t.length:=ht.ne;have htl:=ht.len;obtain⟨L,hL⟩: ∃L,L=kD p i:=⟨_,rfl⟩;rw[←hL]at hll hl0⊢;refine aK ?_;refine T0 (hK _ _ _ ?_);clear hK K;refine aC fun K hK=>?_;refine aL ?_;refine aC fun K hK=>Rg ?_;iterate 4 refine S0 ?_ (e:=fun _ h_=>by simp only[sH,↓sP,sA,tyS,simprocAttr,Int.natCast_nonneg,Int.ofNat_lt,hlt,bL hlt,←hr];exact AX h_)
  refine T2 (hK _ _ _ ?_);clear hK K;refine aC fun K hK=>eF mixed [(0,[],[]),(1,[],[]),(2,[],[]),(3,[],[]),(4,[],[]),(5,[],[]),(6,[],[]),(7,[],[]),(8,[],[]),(9,[],[0,1,2,3,4,5,6]),(10,[],[]),(11,[],[]),(12,[],[]),(13,[],[])] [0,0,2,0,8,0,32,0,128,384,1022,2046,4095,8191] (by kernel_rfl) (by kernel_rfl) (by kernel_rfl) (by kernel_rfl) rfl (by kernel_rfl) ?_;iterate 9 refine WG0 ?_
  refine fM (g:=none) rfl rfl fun K' hK'=>T5 ?_;refine fH (args:=[_]) 0 (xX r.g ⟨by omega,by omega⟩) rfl (by simp) ⟨rfl,rfl,rfl,rfl⟩ ?_;rintro u rfl;refine AX (hK' _ _ ?_);clear hK' K';refine iR (g:=none) 2060 rfl rfl fun K' hK'=>?_;simp only[eN,iD,sH,↓sP,sA,tyS,simprocAttr];repeat refine AI ?_
  refine cB (by first|rfl|simp) ?_;try simp only[sH,↓sP,sA,tyS,simprocAttr]
  refine AX (hK' _ _ ?_);clear hK' K';iterate 3 refine WG0 ?_
  refine T2 (hK _ _ _ ?_);clear hK K;obtain⟨M,hM⟩: ∃M,M=L++[[wRule,r.a,r.b,r.c,numW r.g]]:=⟨_,rfl⟩;have hMm:List.map lsC L++[CV.slc [CV.str [114,117,108,101],CV.str r.a,CV.str r.b,CV.str r.c,CV.str (numW r.g)]]=List.map lsC M:=by rw[hM];simp[lsC,wRule]
  have hMl:L.length+1=M.length:=by rw[hM];simp
  rw[hMm];simp only[List.length_map];refine Rg ?_;iterate 3 refine S0 ?_
  refine HS rfl rfl fun K' hK'=>T5 ?_;refine gW [0,49] (bU8 r.t ht r.t.length M 0 ht0 (by omega) (by rw[hM];simp) (by rw[hM];simp;omega)) rfl ⟨rfl,rfl,trivial⟩ (by simp) (by simp) ⟨rfl,rfl,rfl,rfl⟩ (by simp[eO,HO.men,HV.men,HV.menL]) (by simp[HV.menL,HV.men]) ?_;rintro q os' ⟨rfl,rfl⟩;rw[aW1,aC2];refine AX (hK' _ _ ?_);clear hK' K';iterate 4 refine S0 ?_
  refine T2 (hK _ _ _ ?_);clear hK K;refine aM (by kernel_rfl) ?_;refine TQ (IntWalk.i64_in ((i:Int)+1) (by omega)) ?_;refine⟨⟨i+1,hlt⟩,?_,?_⟩
  ·
   have e1:M++eR r.t 0=kD p (i+1):=by rw[tK hlt,hM,hL,pY,←hr];simp[gB]
   rw[e1];exact fF
  show p.r.length-(i+1)<p.r.length-i;omega
 refine bA (T3 ?_);clear hK K;refine AX (hK _ _ _ ?_);clear hK K;have hei:i=p.r.length:=by simp at hb;omega
 subst hei;clear hb;rw[rT];refine dV [49] (bH (fr2:=fin [(4,.c (.slc ((dS p).map lsC)))]) (ob2:=fob [(0,.tab tabs)]) (nx2:=3000) (aN (by omega) (by simp[aW,gJ,fin_at,finA_at,upd_at,fob_at,HV.close,HV.closeL,CV.denil,CV.denilL,aQ,HV.men,HV.menL,HV.norm,HV.toC,HV.toCL]) (by simp[aY,gK,fob_at,upd_at,none0_at,bX,HO.close,HV.close,HV.closeL,HO.men,HV.men,HV.menL,HV.norm,HV.toC,HV.toCL])) ?_);rw[rT]at hll;refine aC fun K hK=>Rg ?_;have F:=@aQ;refine SF ?_;refine HS rfl rfl fun K' hK'=>T6 ?_;refine D1 (bV0 (dS p) (by omega) (bC0 p)) ?_;rintro u v ⟨rfl,rfl⟩;refine AX (hK' _ _ ?_);clear hK' K';iterate 4 refine SF ?_
 refine T2 (hK _ _ _ ?_);clear hK K;refine aF (RT Tryz.results27 ?_);exact uD [] (.slc ((iK (dS p)).map cP)) (.int .i64 (gM (dS p))) (by simp[HV.close,HV.closeL,CV.denil,CV.denilL,cM,HV.norm,HV.toC,HV.toCL]) rfl (by simp) ⟨by rw[kZ,if_pos hv],by rw[oW,if_pos hv]⟩
end Go.Proofs.YtlldglbooaefhaaGreatDoor
namespace Go.Hl
open Go
def bC3 (P:Program)(f:FuncId)(T:lI)(args:List CV)(R:CV→CV→CV→Prop):Prop:=
 HFn P f (args.map .c) 1 (eP T) (fun r ob'=> ∃u v x,r= .tup [.c u,.c v,.c x]∧ob'=eP T∧R u v x)
variable {R:CV→CV→CV→Prop}{T:lI}{ob:Ob}
theorem jA {r:HV}(cl:List Nat)(u v x:CV)(h:(r.close ob cl).norm= .tup [.c u,.c v,.c x])(hb:ob 0=some (.tab T))(h0:0∉cl)(hR:R u v x):
  mO 1 r ob (fun r ob'=> ∃u v x,r= .tup [.c u,.c v,.c x]∧ob'=eP T∧R u v x):=
 ⟨cl,id,.tup [.c u,.c v,.c x],eP T,⟨u,v,x,rfl,rfl,hR⟩,by grind[HV.ren,HV.renL],fun _ _=>rfl,fun _ _ _ _ h=>h,by simp[HV.men,HV.menL],aT3 hb h0⟩
theorem uM {P:Program}{av:List Nat}{f:FuncId}{nid:Nat}{K:HV→Ob→Prop}{args:List CV}(id:Nat)(h:bC3 P f T args R)(hid:ob id=some (.tab T))(hav:id∉av)
  (hfree:ob nid=none∧ob (nid+1)=none∧ob (nid+2)=none∧ob (nid+3)=none) (hK: ∀u v x,R u v x→K (.tup [.c u,.c v,.c x]) ob):HCall P av f (args.map .c) ob nid K:=by
 refine⟨[id],args.map .c,_,_,h,fO T args,⟨by simp,by grind⟩,(HV.renL_c _ _).symm,sW hid,fun r lob' hR _=>?_⟩;obtain⟨u,v,x,rfl,rfl,hR⟩:=hR;rw[nN hid hfree];exact hK u v x hR
end Go.Hl
namespace Go.Pl
open Go Go.Hl
def LsB (ls:List (List aJ)):Prop:= ∀l∈ls,∀w∈l,w.length<2^40
variable {ls:List (List aJ)}
theorem LsB.drop (h:LsB ls)(j:Nat):LsB (ls.drop j):=fun l hl=>h l (List.mem_of_mem_drop hl)
theorem cH7 {l:List aJ}(h: ∀w∈l,w.length<2^40)(i:Nat):(wd l i).length<2^40:=by grind[wd,Nat.lt_or_ge,List.getElem?_eq_getElem,List.getElem_mem,List.getElem?_eq_none]
variable {w:List aJ}
theorem cH8 (h: ∀x∈w,x.length<2^40){q:Rq}(hq:fK w=some q):q.t.length<2^40:=by
 have h1:=cH7 h 1;have hm: ∀(k:Int) (o:Option Int),o.map (fun n=>(⟨k,n,0,[]⟩:Rq))=some q→q.t.length<2^40:=fun k o ho=>by
  cases o with
  |none=>grind
  |some n=>grind
 unfold fK at hq;split at hq
 · exact hm _ _ hq
 ·
  split at hq
  · grind
  ·
   split at hq
   · exact hm _ _ hq
   ·
    split at hq
    · grind
    ·
     split at hq
     · exact hm _ _ hq
     ·
      split at hq
      · exact hm _ _ hq
      ·
       split at hq
       · exact hm _ _ hq
       grind
theorem cH9 {n:Nd}(h:jZ w=some n):n.q=rq0:=by grind[jZ,bK,wd]
theorem cM5 : ∀f,(∀ls,LsB ls→ ∀t,(rdN f ls).1=some t→ ∀n∈t,n.q.t.length<2^40)∧(∀ls,LsB ls→ ∀p,(rdK f ls).1=some p→ ∀n∈p.1,n.q.t.length<2^40)
 |0=>⟨fun ls _ t h=>by simp[rdN]at h,fun ls _ t h=>by simp[rdK]at h⟩
 |f+1=>by
  obtain⟨ihN,ihK⟩:=cM5 f;refine⟨fun ls hb t h=>?_,fun ls hb p h=>?_⟩
  ·
   match ls with
   |[]=>simp[rdN]at h
   |w::r=>
    cases h1:fK w with
    |some q=>
     rw[nX h1]at h;cases h;intro n hn;rw[List.mem_singleton]at hn;subst hn;exact cH8 (hb w (by simp)) h1
    |none=>
     cases h2:jZ w with
     |none=>grind[nY]
     |some n=>
      rw[oT h1 h2]at h;cases hk:(rdK f r).1 with
      |none=>simp[yO,hk]at h
      |some p=>
       simp only[yO,hk,Option.map_some,Option.some.injEq]at h;subst h;intro x hx;rcases List.mem_cons.1 hx with rfl|hx
       · grind[cH9,rq0]
       · exact ihK r (fun l hl=>hb l (by grind)) p hk x hx
  ·
   cases he:gR (ls.headD [])with
   |true=>grind[aG7]
   |false=>
    match h2:rdN f ls with
    |(none,r)=>simp_all[aV4]
    |(some t,r)=>
     rw[xU he h2]at h;obtain⟨j,hj,_⟩:=(aG8 f).1 ls;rw[h2]at hj;have hj':r=ls.drop j:=hj;cases hk:(rdK f r).1 with
     |none=>simp[pX,hk]at h
     |some q=>
      simp only[pX,hk,Option.map_some,Option.some.injEq]at h;subst h;intro x hx;rcases List.mem_append.1 hx with hx|hx
      · grind
      · exact ihK r (by rw[hj'];exact hb.drop j) q hk x hx
def cI0 (r:Pr):Prop:=r.a.length<2^40∧ ∀n∈r.t,n.q.t.length<2^63
theorem cM6 (hb:LsB ls){x:Pr}(h:(rdR ls).1=some x):cI0 x:=by
 match ls with
 |[]=>cases h
 |w::r=>
  simp only[rdR]at h;split at h
  ·
   cases hn:bK (wd w 4)with
   |none=>grind
   |some g=>
    rw[hn]at h;simp only at h
    match hm:rdT r with
    |(none,r')=>grind
    |(some t,r')=>
     rw[hm]at h;cases h;have h1:=(cM5 (2*r.length+2)).1 r (fun l hl=>hb l (by grind)) t (by grind[rdT]);exact⟨cH7 (hb w (by simp)) 1,fun n hn=>Nat.lt_trans (h1 n hn) (by decide)⟩
  grind
theorem bV1 : ∀(f:Nat) (ls:List (List aJ)) (acc:List Pr),LsB ls→(∀r∈acc,cI0 r)→ ∀l,(kI f ls acc).1=some l→(∀r∈l,cI0 r)∧l.length≤acc.length+f
 |0,ls,acc,_,_,l,h=>by simp[kI]at h
 |f+1,ls,acc,hb,ha,l,h=>by
  simp only[kI]at h;split at h
  · grind
  ·
   match hm:rdR ls with
   |(none,r)=>grind
   |(some x,r)=>
    rw[hm]at h;obtain⟨j,_,hj,_⟩:=aG9 ls;rw[hm]at hj;have hj':r=ls.drop j:=hj;have hx:=cM6 hb (x:=x) (by rw[hm]);obtain⟨h1,h2⟩:=bV1 f r (acc++[x]) (by rw[hj'];exact hb.drop j) (fun y hy=>by grind) l h;grind
theorem cM7 (hb:LsB ls)(hl:ls.length<2^39){p:Po}(h:(rdP ls).1=some p):PoSz p:=by
 match ls with
 |[]=>cases h
 |w::r=>
  simp only[rdP]at h;split at h
  ·
   cases hn:bK (wd w 2)with
   |none=>grind
   |some v=>
    rw[hn]at h;simp only at h
    match hm:kI (r.length+1) r []with
    |(none,r')=>grind
    |(some l,r')=>
     rw[hm]at h;cases h;obtain⟨h1,h2⟩:=bV1 (r.length+1) r [] (fun x hx=>hb x (by grind)) (by simp) l (by rw[hm]);simp only[List.length_cons,List.length_nil]at hl h2;exact⟨Nat.lt_of_lt_of_le (cH7 (hb w (by simp)) 1) (by decide),by grind,fun x hx=>Nat.lt_of_lt_of_le (h1 x hx).1 (by decide),fun x hx=>(h1 x hx).2⟩
  grind
end Go.Pl
namespace Go.Proofs.YtlldglbooaefhaaGreatDoor
open Go Go.Hl Go.Pl
set_option maxRecDepth 10000
set_option maxHeartbeats 16000000
theorem cC6 (b:aJ):LsB (eD b):=fun l hl w hw=>by
 have:=(bY8 (b:=b) l hl).2.2 w hw;omega
theorem bJ8 (a b:aJ):bS Tryz.prog 64 [.slc (a.map cP),.slc (b.map cP)] (fun v=>v= .bool (a==b)):=by
 refine FW Tryz.func64 ?_;refine R0 ?_;refine aC fun K hK=>Rg ?_;have F:=@bytesC_map;iterate 6 refine SF ?_
 refine T2 (hK _ _ _ ?_);clear hK K;refine aF (RT Tryz.results64 ?_);exact aH [] (.bool (a==b)) rfl rfl
theorem bC4 (b:aJ)(hl:b.length<2^40):bC3 Tryz.prog 32 tabs [.slc (b.map u8)] (fun u v x=>u=(dpO b).cv∧v= .int .i64 (dpL b:Nat)∧x= .int .i64 (dpE b)):=by
 refine bQ (args:=[.c (.slc (b.map u8))]) Tryz.func32 rfl (by kernel_rfl) (fO tabs [.slc (b.map u8)]) (Nat.le_of_ble_eq_true rfl) ?_;unfold eP;have hlen:=bQ0 (b:=b);refine R0 ?_;refine aC fun K hK=>Rg ?_;have F:=@denilL_u8;refine SF ?_;refine HS rfl rfl fun K' hK'=>T6 ?_;refine D1 (cH5 b hl) ?_;rintro u v ⟨rfl,rfl⟩;refine AX (hK' _ _ ?_);clear hK' K';iterate 5 refine SF ?_
 refine T2 (hK _ _ _ ?_);clear hK K;refine aC fun K hK=>?_;refine R0 ?_;refine aG (b:=!(eC b==0)) rfl (fun hb=>?_) (fun hb=>?_)
 ·
  have he:eC b≠0:=by simpa using hb
  have e1:dpE b=eC b:=by rw[dpE,if_pos he]
  have e2:dpL b=0:=by rw[dpL,if_pos he]
  have e3:dpO b=po0:=by rw[dpO,e1,if_neg he]
  clear hb;refine aC fun K hK=>Rg ?_;iterate 5 refine S0 ?_
  refine T2 (hK _ _ _ ?_);clear hK K;refine aF (RT Tryz.results32 ?_);exact jA [] po0.cv (.int .i64 0) (.int .i64 (eC b)) (by simp[HV.close,HV.closeL,po0,Po.cv,CV.denil,CV.denilL,HV.norm,HV.toC,HV.toCL]) rfl (by simp) (by rw[e1,e2,e3];exact⟨rfl,rfl,rfl⟩)
 refine aK ?_;refine T0 (hK _ _ _ ?_);clear hK K;have he:eC b=0:=by simpa using hb
 clear hb;refine aC fun K hK=>Rg ?_;iterate 4 refine S0 ?_
 refine T2 (hK _ _ _ ?_);clear hK K;refine aC fun K hK=>Rg ?_;refine S0 ?_;refine HS rfl rfl fun K' hK'=>T5 ?_;refine dZ (args:=[]) (bU6 (eD b) (by omega)) rfl (by simp) ⟨rfl,rfl,rfl,rfl⟩ ?_;rintro u x v' ⟨q,rfl,rfl,rfl,hq⟩;refine AX (hK' _ _ ?_);clear hK' K';iterate 5 refine S0 ?_
 refine T2 (hK _ _ _ ?_);clear hK K;refine aC fun K hK=>?_;refine R0 ?_;refine aG (b:=!(rdP (eD b)).1.isSome) rfl (fun hb=>?_) (fun hb=>?_)
 ·
  have hno:(rdP (eD b)).1=none:=by simpa using hb
  have e1:dpE b=2:=by rw[dpE,if_neg (by simpa using he),hno]
  have e2:dpL b=(eD b).length-(rdP (eD b)).2.length:=by
   rw[dpL,if_neg (by simpa using he)]
   match h:rdP (eD b)with
   |(none,r)=>rfl
   |(some p,r)=>rw[h]at hno;cases hno
  have e3:dpO b=po0:=by rw[dpO,e1,if_neg (by decide)]
  clear hb;refine aC fun K hK=>DW [(0,[],[]),(1,[],[]),(2,[],[]),(3,[],[]),(4,[],[]),(5,[],[1,2,3,4]),(6,[],[]),(7,[],[])] [0,0,2,6,14,1,63,127] ?_;iterate 8 refine W0 ?_ (e:=fun _ h_=>by simp only[sH,↓sP,sA,tyS,simprocAttr,rdr];exact AX h_)
  refine T2 (hK _ _ _ ?_);clear hK K;refine aF (RT Tryz.results32 ?_);exact jA [] po0.cv (.int .i64 ((eD b).length-(rdP (eD b)).2.length:Nat)) (.int .i64 2) (by simp[HV.close,HV.closeL,po0,Po.cv,CV.denil,CV.denilL,HV.norm,HV.toC,HV.toCL]) rfl (by simp) (by rw[e1,e2,e3];exact⟨rfl,rfl,rfl⟩)
 refine aK ?_;refine T0 (hK _ _ _ ?_);clear hK K;refine aC fun K hK=>?_;obtain⟨p,hp⟩: ∃p,(rdP (eD b)).1=some p:=by
  cases h:(rdP (eD b)).1 with
  |none=>rw[h]at hb;simp at hb
  |some p=>exact⟨p,rfl⟩
 obtain rfl:=hq p hp;have hsz:=cM7 (cC6 b) (by omega) hp;have hr:rdP (eD b)=(some q,(rdP (eD b)).2):=Prod.ext hp rfl;have hiff:=cG3 he hr;have e1:dpE b=if eK q then 0 else 1:=by rw[dpE,if_neg (by simpa using he),hp]
 have e2:dpL b=0:=by rw[dpL,if_neg (by simpa using he),hr]
 clear hb;refine aC fun K hK=>Rg ?_;refine S0 ?_;refine HS rfl rfl fun K' hK'=>T5 ?_;refine uE (args:=[_]) 0 (bC2 q hsz) rfl (by simp) ⟨rfl,rfl,rfl,rfl⟩ ?_;rintro u v ⟨rfl,rfl⟩;refine AX (hK' _ _ ?_);clear hK' K';iterate 5 refine S0 ?_
 refine T2 (hK _ _ _ ?_);clear hK K;refine aC fun K hK=>Rg ?_;have F:=aI @cM @denilL_u8;iterate 3 refine SF ?_
 refine aE 40 rfl (fun h9_40=>?_) (fun h9_40=>?_)
 ·
  have F:=aI @cM (aI @denilL_u8 h9_40);iterate 5 refine SF ?_
  refine T2 (hK _ _ _ ?_);clear hK K;refine CT rfl ?_;refine aC fun K hK=>Rg ?_;have F:=h9_40;iterate 4 refine SF ?_
  refine T2 (hK _ _ _ ?_);clear hK K;refine aF (RT Tryz.results32 ?_);have hpo:eK q=false:=by
   cases h:eK q with
   |false=>rfl
   |true=>exact absurd (hiff.2 h).1 (by simpa using h9_40)
  rw[hpo]at e1;have e1:dpE b=1:=e1;have e3:dpO b=po0:=by rw[dpO,e1,if_neg (by decide)]
  exact jA [] po0.cv (.int .i64 0) (.int .i64 1) (by simp[HV.close,HV.closeL,po0,Po.cv,CV.denil,CV.denilL,HV.norm,HV.toC,HV.toCL]) rfl (by simp) (by rw[e1,e2,e3];exact⟨rfl,rfl,rfl⟩)
 have F:=aI @cM (aI @denilL_u8 h9_40);iterate 2 refine SF ?_
 refine bB (g:=some (41,false)) rfl rfl fun K' hK'=>T6 ?_;refine C2 (bJ8 (kZ q) b) ?_;rintro u rfl;refine AX (hK' _ _ ?_);clear hK' K';iterate 2 refine SF ?_
 refine aE 44 rfl (fun h9_44=>?_) (fun h9_44=>?_)
 ·
  simp only[h9_44];refine T2 (hK _ _ _ ?_);clear hK K;refine CF rfl ?_;refine aK ?_;refine T0 (hK _ _ _ ?_);clear hK K;refine aC fun K hK=>Rg ?_;have F:=aI h9_40 h9_44;iterate 4 refine SF ?_
  refine T2 (hK _ _ _ ?_);clear hK K;refine aF (RT Tryz.results32 ?_);have hpo:eK q=true:=hiff.1 ⟨by simpa using h9_40,by simpa using h9_44⟩;rw[hpo]at e1;have e1:dpE b=0:=e1;have e3:dpO b=q:=by rw[dpO,if_pos e1,hp];rfl
  exact jA [] q.cv (.int .i64 0) (.int .i64 0) (by simp[HV.close,HV.closeL,Po.denil,CV.denil,CV.denilL,HV.norm,HV.toC,HV.toCL]) rfl (by simp) (by rw[e1,e2,e3];exact⟨rfl,rfl,rfl⟩)
 simp only[h9_44];refine T2 (hK _ _ _ ?_);clear hK K;refine CT rfl ?_;refine aC fun K hK=>Rg ?_;have F:=aI h9_40 h9_44;iterate 4 refine SF ?_
 refine T2 (hK _ _ _ ?_);clear hK K;refine aF (RT Tryz.results32 ?_);have hpo:eK q=false:=by
  cases h:eK q with
  |false=>rfl
  |true=>exact absurd (hiff.2 h).2 (by simpa using h9_44)
 rw[hpo]at e1;have e1:dpE b=1:=e1;have e3:dpO b=po0:=by rw[dpO,e1,if_neg (by decide)]
 exact jA [] po0.cv (.int .i64 0) (.int .i64 1) (by simp[HV.close,HV.closeL,po0,Po.cv,CV.denil,CV.denilL,HV.norm,HV.toC,HV.toCL]) rfl (by simp) (by rw[e1,e2,e3];exact⟨rfl,rfl,rfl⟩)
theorem bJ9 (l:List Nd)(hl:l.length<2^40):aF3 Tryz.prog 76 [(22,.slc (l.map Nd.cv))] (bwL l):=by
 refine zV Tryz.func76 rfl (by kernel_rfl) (Nat.le_of_ble_eq_true rfl) rfl fun L J hS hY=>?_;have e0:kH [(22,CV.slc (l.map Nd.cv))]=fob [(0,.box 22 (.c (.slc (l.map Nd.cv))))]:=by
  funext i
  match i with
  |0=>rfl
  |i+1=>simp[kH,fob,upd]
 have e1:gX (List.range [((22:Nat),CV.slc (l.map Nd.cv))].length)=[.ptr 0 0]:=rfl;rw[e0,e1];refine eY fun K hK=>nO hS rfl (aM (by kernel_rfl) ?_);simp only[sR,simprocAttr];iterate 4 refine S0 ?_ (e:=fun _ h_=>by simp only[sH,↓sP,sA,tyS,simprocAttr,rI,cR ((l.length:Int)-1) (by omega),List.length_map];exact AX h_)
 simp only[sE,↓reduceIte,simprocAttr,rI];refine hK _ _ _ _ _ ?_;clear hK K;refine oN ?_;refine aM6 (α:={j:Nat//j≤l.length}) hS (fun j=>(fin [(0,.opq (.func (.yield L) #[] #[])),(1,.ptr 0 0),(3,.c (.int .i64 ((l.length:Int)-1-j.1)))],fob [(0,.box 22 (.c (.slc (l.map Nd.cv))))])) (fun j=>j.1) 100 (fun j=>l.length-j.1) ⟨0,Nat.zero_le _⟩ rfl (fF) rfl ?_;rintro⟨j,hj⟩;refine eY fun K hK=>?_;refine eY fun K1 hK1=>nO hS rfl (aM (by kernel_rfl) ?_);simp only[sR,simprocAttr];have F:=rI;iterate 2 refine SF ?_
 simp only[sE,↓reduceIte,simprocAttr,rI];refine hK1 _ _ _ _ _ ?_;clear hK1 K1;refine jX (b:=decide ((0:Int)≤(l.length:Int)-1-j)) rfl (fun hb=>?_) (fun hb=>?_)
 ·
  have hlt:j<l.length:=by simp at hb;omega
  have hi2:l.length-1-j<l.length:=by omega
  have hxl:j<(bwL l).length:=by rw[rQ];exact hlt
  have hx:=bS3 hxl hi2;have hcast:(l.length:Int)-1-j=((l.length-1-j:Nat):Int):=by omega
  have hw1:IntKind.i64.wrap (((l.length-1-j:Nat):Int)-1)=(l.length:Int)-1-((j:Int)+1):=by rw[cR _ (by omega)];omega
  refine nP ?_;simp only[sE,↓reduceIte,simprocAttr,rI];refine hK _ _ _ _ _ ?_;clear hK K;refine eY fun K hK=>?_;refine oN ?_;refine eY fun K1 hK1=>sX (l:=L) 6 hS hY rfl (by kernel_rfl) (by decide) ?_;simp only[sR,List.range',simprocAttr];have F:=aI rI (aI hcast (aI @List.length_map.{0,0} (aI @Int.natCast_nonneg (aI @Int.ofNat_lt (aI hi2 (nM hi2))))));iterate 6 refine SF ?_
  rw[hlex];refine⟨_,_,_,hxl,rfl,rfl,rfl,rfl,rfl,?_,?_,?_⟩
  · rw[hx];simp only[hcast];rfl
  ·
   simp only[sR,List.range',simprocAttr];have F:=rI;refine SF ?_;simp only[sE,↓reduceIte,simprocAttr,rI];refine hK1 _ _ _ _ _ ?_;clear hK1 K1;refine jX (b:=false) rfl (fun hb=>by cases hb) (fun _=>?_);refine nP ?_;simp only[sE,↓reduceIte,simprocAttr,rI];refine hK _ _ _ _ _ ?_;clear hK K;refine nO hS rfl (aM (by kernel_rfl) ?_);simp only[sR,simprocAttr];have F:=aI rI (aI hcast hw1);iterate 3 refine SF ?_
   simp only[sE,↓reduceIte,simprocAttr,rI];refine⟨⟨j+1,hlt⟩,fF,trivial,rfl,?_⟩;show l.length-(j+1)<l.length-j;omega
  simp only[sR,List.range',simprocAttr];have F:=rI;refine SF ?_;simp only[sE,↓reduceIte,simprocAttr,rI];refine hK1 _ _ _ _ _ ?_;clear hK1 K1;refine jX (b:=true) rfl (fun _=>?_) (fun hb=>by cases hb);refine aY8 ?_;simp only[sE,↓reduceIte,simprocAttr,rI];exact⟨by simp,fun h=>by cases h⟩
 have hji:j=l.length:=by simp at hb;omega
 refine aM5 ?_;simp only[sE,↓reduceIte,simprocAttr,rI];exact⟨by simp,fun _=>by rw[rQ];exact hji⟩
theorem cC7 (l:List Nd):aY9 Tryz.prog 46 76 [.slc (l.map Nd.cv)] [(22,.slc (l.map Nd.cv))]:=by
 refine FW Tryz.func46 ?_;refine R0 ?_;refine R0 ?_;refine aF (RT Tryz.results46 ?_);refine sZ (gf:=76) (bs:=[(22,.slc (l.map Nd.cv))]) (ids:=[0]) rfl (by simp) (by decide) ?_ ?_
 ·
  intro j x hx
  match j,hx with
  |0,hx=>cases hx;rfl
 intro x hx;simp only[List.mem_cons,List.not_mem_nil,or_false]at hx;subst hx;exact congrArg CV.slc (denilL_Nd l)
theorem aQ7 (n:Nd)(L:List Bool)(lo m:Nat)(hl:L.length<2^40)(h0:0<L.length)(hlo:lo≤m)(hm:m≤L.length):
  HGe Tryz.prog 47 [.c n.cv,.osl 0 L.length lo 1 m] [.row 4 1 (L.map bC)] (fun r os'=>r= .c (.bool (lM n ((L.drop lo).take (m-lo))))∧os'=[.row 4 1 (L.map bC)]):=by
 obtain⟨V,hV⟩: ∃V,V=(L.drop lo).take (m-lo):=⟨_,rfl⟩;have hVl:V.length=m-lo:=by rw[hV];simp;omega
 rw[←hV];have hrd:List.take (m-lo) (List.drop lo (L.map bC))=V.map bC:=by rw[hV,List.map_take,List.map_drop]
 refine bQ (args:=[.c n.cv,.osl 0 L.length lo 1 m]) Tryz.func47 rfl (by kernel_rfl) (fX rfl (by simp[eO,HO.men]) (by simp[HV.menL,HV.men])) (Nat.le_of_ble_eq_true rfl) ?_;have e0:lst [.row 4 1 (L.map bC)]=fob [(0,.row 4 1 (L.map bC))]:=by
  funext i
  match i with
  |0=>rfl
  |i+1=>simp[lst,fob,upd]
 show Hw _ _ 1 _ _ _ (lst _) 1;rw[e0];refine R0 ?_;refine R0 ?_;refine aC fun K hK=>?_;refine R0 ?_ (e:=fun _ h_=>by simp only[↓sP,sA,tyS,simprocAttr,hrd,List.length_map,h0,hlo,hm];exact AX h_);refine aL ?_;refine bF (α:={i:Nat//i≤V.length}) (fun i=>(fin [(1,.osl 0 L.length lo 1 m),(2,.ptr 1 0),(5,.c (.int .i64 (cnt (V.take i.1):Nat))),(8,.osl 0 L.length lo 1 m),(9,.c (.int .i64 V.length)),(10,.c (.int .i64 i.1))],fob [(0,.row 4 1 (L.map bC)),(1,.box 40 (.c n.cv))])) 100 (fun i=>V.length-i.1) ⟨0,by omega⟩ (aN (by omega) (by simp[aW,fin_at,finA_at,upd_at,HV.men,HV.menL,HV.norm,HV.toC,HV.toCL,cnt]) (by simp[aY,fob_at,upd_at,none0_at,bX,HO.men,HV.men,HV.menL,HV.norm,HV.toC,HV.toCL,cnt])) ?_;rintro⟨i,hi⟩;have hcn:cnt (V.take i)≤i:=by have:=cG1 (V.take i);simp at this;omega
 refine R0 ?_;refine aC fun K hK=>?_;refine aG (b:=decide ((i:Int)<V.length)) rfl (fun hb=>?_) (fun hb=>?_)
 ·
  have hlt:i<V.length:=by simpa using hb
  have hct:=pF (l:=V) (k:=i) hlt;have hw3:IntKind.i64.wrap ((cnt (V.take i):Int)+1)=((cnt (V.take i)+1:Nat):Int):=by rw[cR _ (by omega)];rfl
  have hli:lo+i<L.length:=by omega
  have hvi:L[lo+i]=V[i]:=by simp[hV]
  have hli2:lo+i<(L.map bC).length:=by simpa using hli
  have hml:i<m-lo:=by omega
  clear hb;refine aK ?_;refine T0 (hK _ _ _ ?_);clear hK K;refine aC fun K hK=>?_;refine aL ?_;refine R0 ?_ (e:=fun _ h_=>by simp only[↓sP,sA,tyS,simprocAttr,List.length_map,Int.natCast_nonneg,Int.ofNat_lt,h0,hm,hml,hli,bL hli,bC];exact AX h_);refine R0 ?_;refine aG (b:=L[lo+i]) rfl (fun hb=>?_) (fun hb=>?_)
  · rw[hvi]at hb;rw[if_pos (by simpa[hlt]using hb)]at hct;refine aM (by kernel_rfl) ?_;refine TQ hw3 ?_;refine AX (hK _ _ _ ?_);clear hK K;refine aM (by kernel_rfl) ?_;simp only[↓sP,sA,tyS,simprocAttr,cR ((i:Int)+1) (by omega)];refine⟨⟨i+1,hlt⟩,aN (by omega) (by simp[aW,fin_at,finA_at,upd_at,HV.men,HV.menL,HV.norm,HV.toC,HV.toCL,hct]) (by simp[aY,fob_at,upd_at,none0_at,bX,HO.men,HV.men,HV.menL,HV.norm,HV.toC,HV.toCL,hct]),?_⟩;show V.length-(i+1)<V.length-i;omega
  rw[hvi]at hb;rw[if_neg (by simp[hlt,hb])]at hct;refine aK ?_;refine T0 (hK _ _ _ ?_);clear hK K;refine aM (by kernel_rfl) ?_;simp only[↓sP,sA,tyS,simprocAttr,cR ((i:Int)+1) (by omega)];refine⟨⟨i+1,hlt⟩,aN (by omega) (by simp[aW,fin_at,finA_at,upd_at,HV.men,HV.menL,HV.norm,HV.toC,HV.toCL,hct]) (by simp[aY,fob_at,upd_at,none0_at,bX,HO.men,HV.men,HV.menL,HV.norm,HV.toC,HV.toCL,hct]),?_⟩;show V.length-(i+1)<V.length-i;omega
 refine bA (T3 ?_);clear hK K;refine AX (hK _ _ _ ?_);clear hK K;refine aC fun K hK=>?_;have hei:i=V.length:=by simp only[decide_eq_false_iff_not]at hb;omega
 subst hei;rw[List.take_length]at hcn⊢;clear hb;refine R0 ?_;refine aL ?_;refine R0 ?_;refine aG (b:=(n.k==2)) rfl (fun hb=>?_) (fun hb=>?_)
 ·
  refine aC fun K hK=>Rg ?_;iterate 5 refine S0 ?_ (e:=fun _ h_=>by simp only[sH,↓sP,sA,tyS,simprocAttr,hrd,List.length_map,h0,hlo,hm];exact AX h_)
  refine T2 (hK _ _ _ ?_);clear hK K;refine aF (RT Tryz.results47 ?_);have h2:n.k=2:=by simpa using hb
  exact eE [] [] (.c (.bool ((cnt V:Int)==V.length))) [.row 4 1 (L.map bC)] rfl (by simp[HV.men]) ⟨⟨trivial,by simp,_,rfl,rfl⟩,trivial⟩ rfl List.nodup_nil (by simp) (by simp) ⟨by rw[lM,if_pos h2];congr 2;rw[Bool.eq_iff_iff];simp;omega,rfl⟩
 have h2:n.k≠2:=by simpa using hb
 refine R0 ?_;refine aG (b:=(n.k==3)) rfl (fun hb=>?_) (fun hb=>?_)
 ·
  refine R0 ?_;refine aF (RT Tryz.results47 ?_);have h3:n.k=3:=by simpa using hb
  exact eE [] [] (.c (.bool (decide ((1:Int)≤cnt V)))) [.row 4 1 (L.map bC)] rfl (by simp[HV.men]) ⟨⟨trivial,by simp,_,rfl,rfl⟩,trivial⟩ rfl List.nodup_nil (by simp) (by simp) ⟨by rw[lM,if_neg h2,if_pos h3];congr 2;rw[Bool.eq_iff_iff];simp;omega,rfl⟩
 refine aK ?_;refine T0 (hK _ _ _ ?_);clear hK K;refine aC fun K hK=>Rg ?_;iterate 5 refine S0 ?_
 refine T2 (hK _ _ _ ?_);clear hK K;refine aF (RT Tryz.results47 ?_);have h3:n.k≠3:=by simpa using hb
 exact eE [] [] (.c (.bool (decide (n.n≤cnt V)))) [.row 4 1 (L.map bC)] rfl (by simp[HV.men]) ⟨⟨trivial,by simp,_,rfl,rfl⟩,trivial⟩ rfl List.nodup_nil (by simp) (by simp) ⟨by rw[lM,if_neg h2,if_neg h3],rfl⟩
end Go.Proofs.YtlldglbooaefhaaGreatDoor
namespace Go.Pl
open Go Go.Hl
def lW (w:List Bool)(m:Nat)(b:Bool):List Bool:=w.take m++[b]++w.drop (m+1)
variable {b:Bool}{m:Nat}{w:List Bool}
theorem lX (h:m+1≤w.length):(lW w m b).length=w.length:=by simp[lW];omega
theorem aC4 :lW w w.length b=w++[b]:=by simp[lW]
theorem aC5 (h:m≤w.length):(lW w m b).take (m+1)=w.take m++[b]:=by grind[lW,List.take_of_length_le]
def aW2 (l:List Nd)(tr:List Bool)(p:Nat)(s:List Bool×Nat):List Bool×Nat:=
 if(l.getD p nd0).k=1 then(lW s.1 s.2 (tr.getD (lv (l.take p)) false),s.2+1)
 else(lW s.1 (s.2-(l.getD p nd0).c.toNat) (lM (l.getD p nd0) ((s.1.drop (s.2-(l.getD p nd0).c.toNat)).take (l.getD p nd0).c.toNat)),s.2-(l.getD p nd0).c.toNat+1)
def cA (l:List Nd)(tr:List Bool):Nat→List Bool×Nat
 |0=>([],0)
 |i+1=>aW2 l tr (l.length-1-i) (cA l tr i)
structure EvOk (l:List Nd)(tr:List Bool)(i:Nat):Prop where
 le:i≤l.length
 m:(cA l tr i).2=(evS (lv l) tr (l.drop (l.length-i))).length
 row:(cA l tr i).1.take (cA l tr i).2=(evS (lv l) tr (l.drop (l.length-i))).reverse
 fit:(cA l tr i).2≤(cA l tr i).1.length
 small:(cA l tr i).1.length≤i
theorem EvOk.zero (l:List Nd)(tr:List Bool):EvOk l tr 0:=⟨by omega,by simp[cA,evS],by simp[cA,evS],by simp[cA],by simp[cA]⟩
theorem yP (n:Nd)(l:List Bool):lM n l.reverse=lM n l:=by simp only[lM,aN4,List.length_reverse]
variable {c:Nat}{E:List Bool}
theorem bV2 :E.reverse.take (E.length-c)=(E.drop c).reverse:=by rw[List.reverse_drop]
theorem bV3 (h:c≤E.length):E.reverse.drop (E.length-c)=(E.take c).reverse:=by rw[List.reverse_take]
variable {i:Nat}{l:List Nd}
theorem EvOk.at_ {tr:List Bool}(hi:i<l.length):l.drop (l.length-(i+1))=l[l.length-1-i]'(by omega)::l.drop (l.length-i):=by grind[List.drop_eq_getElem_cons]
variable {tr:List Bool}
theorem EvOk.leaf (h:EvOk l tr i)(hi:i<l.length)(hk:(l[l.length-1-i]'(by omega)).k=1):
  EvOk l tr (i+1)∧cA l tr (i+1)=(lW (cA l tr i).1 (cA l tr i).2 (tr.getD (lv (l.take (l.length-1-i))) false),(cA l tr i).2+1):=by
 have hp:l.length-1-i<l.length:=by omega
 have hg:l.getD (l.length-1-i) nd0=l[l.length-1-i]:=by simp[hp]
 have e:cA l tr (i+1)=(lW (cA l tr i).1 (cA l tr i).2 (tr.getD (lv (l.take (l.length-1-i))) false),(cA l tr i).2+1):=by
  simp only[cA,aW2,hg,if_pos hk]
 have hT:=aF6 l (l.length-1-i);have hd:=EvOk.at_ (tr:=tr) hi;rw[show l.length-(i+1)=l.length-1-i from by omega]at hd;have hE:evS (lv l) tr (l.drop (l.length-(i+1)))=tr.getD (lv (l.take (l.length-1-i))) false::evS (lv l) tr (l.drop (l.length-i)):=by
  rw[show l.length-(i+1)=l.length-1-i from by omega,hd,evS,if_pos hk,←hd];congr 2;omega
 refine⟨⟨hi,?_,?_,?_,?_⟩,e⟩
 · rw[e,hE];simp[h.m]
 · rw[e,hE];simp only[List.reverse_cons];rw[aC5 h.fit,h.row]
 · rw[e];have:=h.fit;simp[lW];omega
 · rw[e];have:=h.fit;have:=h.small;simp[lW];omega
theorem EvOk.inner (ht:IsTree l)(h:EvOk l tr i)(hi:i<l.length)(hk:(l[l.length-1-i]'(by omega)).k≠1):
  (l[l.length-1-i]'(by omega)).c.toNat≤(cA l tr i).2∧EvOk l tr (i+1)∧
  cA l tr (i+1)=(lW (cA l tr i).1 ((cA l tr i).2-(l[l.length-1-i]'(by omega)).c.toNat) (lM (l[l.length-1-i]'(by omega)) (((cA l tr i).1.drop ((cA l tr i).2-(l[l.length-1-i]'(by omega)).c.toNat)).take (l[l.length-1-i]'(by omega)).c.toNat)),(cA l tr i).2-(l[l.length-1-i]'(by omega)).c.toNat+1):=by
 have hp:l.length-1-i<l.length:=by omega
 have hg:l.getD (l.length-1-i) nd0=l[l.length-1-i]:=by simp[hp]
 have e:cA l tr (i+1)=(lW (cA l tr i).1 ((cA l tr i).2-(l[l.length-1-i]'(by omega)).c.toNat) (lM (l[l.length-1-i]'(by omega)) (((cA l tr i).1.drop ((cA l tr i).2-(l[l.length-1-i]'(by omega)).c.toNat)).take (l[l.length-1-i]'(by omega)).c.toNat)),(cA l tr i).2-(l[l.length-1-i]'(by omega)).c.toNat+1):=by
  simp only[cA,aW2,hg,if_neg hk]
 have hkl:=bO5 ht (tr:=tr) hp;rw[show l.length-1-i+1=l.length-i from by omega]at hkl;obtain⟨_,_,_,c4⟩:=dG (ht.node _ (List.getElem_mem hp));have c5:=c4 hk;have c6:1≤l[l.length-1-i].c.toNat:=by omega
 have hd:=EvOk.at_ (tr:=tr) hi;have hm:=h.m;have hr:=h.row;have hf:=h.fit;have hs:=h.small;have hE:evS (lv l) tr (l.drop (l.length-(i+1)))=lM l[l.length-1-i] ((evS (lv l) tr (l.drop (l.length-i))).take l[l.length-1-i].c.toNat)::(evS (lv l) tr (l.drop (l.length-i))).drop l[l.length-1-i].c.toNat:=by
  rw[hd,evS,if_neg hk]
 generalize evS (lv l) tr (l.drop (l.length-i))=E at hm hr hkl hE;generalize l[l.length-1-i].c.toNat=c at*;have h1:(cA l tr i).1.take ((cA l tr i).2-c)=(E.drop c).reverse:=by
  rw[←bV2,←hr,List.take_take,hm,Nat.min_eq_left (by omega)]
 have h2:((cA l tr i).1.drop ((cA l tr i).2-c)).take c=(E.take c).reverse:=by
  rw[←bV3 hkl,←hr,List.drop_take,hm];congr 1;omega
 refine⟨by omega,⟨hi,?_,?_,?_,?_⟩,e⟩
 · rw[e,hE];simp only[List.length_cons,List.length_drop];omega
 · rw[e,hE];simp only[List.reverse_cons];rw[aC5 (by omega),h1,h2,yP]
 · rw[e];simp only;rw[lX (by omega)];omega
 · rw[e];simp only;rw[lX (by omega)];omega
theorem EvOk.fin (ht:IsTree l)(h:EvOk l tr l.length):(cA l tr l.length).2=1∧ ∃h0:0<(cA l tr l.length).1.length,xC l tr=(cA l tr l.length).1[0]:=by
 have hl:=aF5 (T:=lv l) (tr:=tr) l 1 ht.node ht.skip;have hm:=h.m;have hr:=h.row;have hf:=h.fit;rw[Nat.sub_self,List.drop_zero]at hm hr;rw[hl]at hm;have h0:0<(cA l tr l.length).1.length:=by omega
 refine⟨hm,h0,?_⟩;have ht':=aO2 ht;obtain⟨x,hx⟩: ∃x,evS (lv l) tr l=[x]:=by
  match hE:evS (lv l) tr l,hl with
  |[x],_=>exact⟨x,rfl⟩
 rw[hx,hm]at hr;rw[xC,ht',hx];have:(cA l tr l.length).1[0]=x:=by
  have:=congrArg (·.head?) hr;simpa[List.head?_take,List.head?_eq_getElem?,h0]using this
 rw[this];rfl
end Go.Pl
