/- Pieces of a string (strings.Split), in plain Lean. By an AI agent. -/
import Derived.Test.YtflnfidkociekaaGreatDoorHeV3
import Derived.Test.YtflnfidkociekaaGreatDoorHlTab
import Derived.Test.YtflnfidkociekaaGreatDoorHlIb
set_option linter.unusedSimpArgs false
set_option linter.unusedVariables false
set_option linter.defProp false
namespace Go.Proofs.YtflnfidkociekaaGreatDoor
open Go Go.Hl Go.Pl
set_option maxRecDepth 10000
set_option maxHeartbeats 2000000
def lsC (l:List aU):CV:= .slc (l.map .str)
theorem aL6 (l:List aU):(lsC l).denil=lsC l:=by simp only[lsC,CV.denil,denilL_str]
theorem fL (l:List (List aU)):CV.denilL (l.map lsC)=l.map lsC:=cP aL6 l
theorem bE5 (b:aU)(hl:b.length<2^40):eD Tryz.prog 21 [.slc (b.map u8)] (fun u v=>u= .slc ((fS b).map lsC)∧v= .int .i64 (dM b)):=by
 refine bI Tryz.func21 rfl (by kernel_rfl) (bJ _) (Nat.le_of_ble_eq_true rfl) ?_;refine aD fun K hK=>aC (by kernel_rfl) ?_;simp (maxSteps:=4000000) only[↓sP,sA,tyS,simprocAttr,aK,aG,aN,aI,aF,aL,aH,aM,aO,aJ,aP,aR];repeat refine AI ?_
 refine hK _ _ _ ?_;clear hK K;refine aS4 ?_;refine aD fun K hK=>?_;refine aD fun K hK=>aC (by kernel_rfl) ?_;simp (maxSteps:=4000000) only[↓sP,sA,tyS,simprocAttr,aK,aG,aN,aI,aF,aL,aH,aM,aO,aJ,aP,aR,List.length_map];repeat refine AI ?_
 refine hK _ _ _ ?_;clear hK K;refine aQ (b:=decide ((262144:Int)<b.length)) rfl (fun hb=>?_) (fun hb=>?_)
 ·
  refine aD fun K hK=>aC (by kernel_rfl) ?_;simp (maxSteps:=4000000) only[↓sP,sA,tyS,simprocAttr,aK,aG,aN,aI,aF,aL,aH,aM,aO,aJ,aP,aR];repeat refine AI ?_
  refine hK _ _ _ ?_;clear hK K;refine aT ?_;simp (maxSteps:=4000000) only[bA,Tryz.results21,aY,aZ,aX,↓sP,sA,tyS,simprocAttr,aK,aG,aN,aI,aF,aL,aH,aM,aO,aJ,aP,aR];have hE:dM b=3:=by unfold dM;rw[if_pos (by simp at hb;omega)]
  refine aW [] (.slc []) (.int .i64 3) ?_ ⟨by simp only[fS,hE];rfl,by rw[hE]⟩;simp[HV.close,HV.closeL,CV.denil,CV.denilL,HV.norm,HV.toC,HV.toCL]
 refine aV ?_;simp (maxSteps:=4000000) only[↓sP,sA,tyS,simprocAttr,aK,aG,aN,aI,aF,aL,aH,aM,aO,aJ,aP,aR];repeat refine AI ?_
 refine hK _ _ _ ?_;clear hK K;have hle:b.length≤262144:=by simp at hb;omega
 clear hb;refine aD fun K hK=>aC (by kernel_rfl) ?_;simp (maxSteps:=4000000) only[↓sP,sA,tyS,simprocAttr,aK,aG,aN,aI,aF,aL,aH,aM,aO,aJ,aP,aR];repeat refine AI ?_
 refine hK _ _ _ ?_;clear hK K;refine aD fun K hK=>aC (by kernel_rfl) ?_;simp (maxSteps:=4000000) only[↓sP,sA,tyS,simprocAttr,aK,aG,aN,aI,aF,aL,aH,aM,aO,aJ,aP,aR];repeat refine AI ?_
 refine hK _ _ _ ?_;clear hK K;refine aD fun K hK=>?_;refine aP7 ?_;try simp (maxSteps:=4000000) only[↓sP,sA,tyS,simprocAttr,aK,aG,aN,aI,aF,aL,aH,aM,aO,aJ,aP,aR]
 repeat refine AI ?_
 refine hK _ _ _ ?_;clear hK K;refine aD fun K hK=>?_;have key: ∀(ok:Bool) (ls:List (List aU)) fr ob nx,(ok=true→fF b=some ls)→(ok=false→fF b=none)→ls.length≤b.length→Fits 0 fr ob (fin [(4,.own 32 ls.length),(5,.ptr 24 0)]) (fob [(24,.box 4 (.c (.bool ok))),(32,.row 48 1 (ls.map lsC))]) 1000→K fr ob nx:=by
  intro ok ls fr ob nx h1 h2 h3 hf;refine hK _ _ _ (cN hf ?_);clear hf hK K;refine aD fun K hK=>?_;cases ok
  ·
   refine aD fun K hK=>aC (by kernel_rfl) ?_;simp only[sR,simprocAttr];iterate 3
    (refine aB (g:=none) rfl rfl fun K' hK'=>?_;simp only[sH,↓sP,sA,tyS,simprocAttr,aK,aG,aN,aI,aF,aL,aH,aM,aO,aJ,aP,aR,List.length_map];(repeat refine AI ?_);refine hK' _ _ ?_;clear hK' K')
   iterate 3
    (refine aB (g:=some (56,false)) rfl rfl fun K' hK'=>?_;simp only[sH,↓sP,sA,tyS,simprocAttr,aK,aG,aN,aI,aF,aL,aH,aM,aO,aJ,aP,aR,List.length_map];(repeat refine AI ?_);refine hK' _ _ ?_;clear hK' K')
   refine aB (g:=none) rfl rfl fun K' hK'=>?_;simp (maxSteps:=4000000) only[sH,↓sP,sA,tyS,simprocAttr,aK,aG,aN,aI,aF,aL,aH,aM,aO,aJ,aP,aR,List.length_map];repeat refine AI ?_
   refine hK' _ _ ?_;clear hK' K';simp only[sE,↓reduceIte,simprocAttr,aK,aG,aN,aI,aF,aL,aH,aM,aO,aJ,aP,aR];repeat refine AI ?_
   refine hK _ _ _ ?_;clear hK K;refine aQ (b:=true) rfl (fun hb=>?_) (fun hb=>?_)
   ·
    refine aD fun K hK=>aC (by kernel_rfl) ?_;simp (maxSteps:=4000000) only[↓sP,sA,tyS,simprocAttr,aK,aG,aN,aI,aF,aL,aH,aM,aO,aJ,aP,aR];repeat refine AI ?_
    refine hK _ _ _ ?_;clear hK K;refine aT ?_;simp (maxSteps:=4000000) only[bA,Tryz.results21,aY,aZ,aX,↓sP,sA,tyS,simprocAttr,aK,aG,aN,aI,aF,aL,aH,aM,aO,aJ,aP,aR];have hE:dM b=2:=by unfold dM;rw[if_neg (by omega),h2 rfl]
    refine aW [] (.slc []) (.int .i64 2) ?_ ⟨by simp only[fS,hE];rfl,by rw[hE]⟩;simp[HV.close,HV.closeL,CV.denil,CV.denilL,HV.norm,HV.toC,HV.toCL]
   cases hb
  refine aD fun K hK=>aC (by kernel_rfl) ?_;simp only[sR,simprocAttr];iterate 3
   (refine aB (g:=none) rfl rfl fun K' hK'=>?_;simp only[sH,↓sP,sA,tyS,simprocAttr,aK,aG,aN,aI,aF,aL,aH,aM,aO,aJ,aP,aR,List.length_map];(repeat refine AI ?_);refine hK' _ _ ?_;clear hK' K')
  iterate 3
   (refine aB (g:=some (56,false)) rfl rfl fun K' hK'=>?_;simp only[sH,↓sP,sA,tyS,simprocAttr,aK,aG,aN,aI,aF,aL,aH,aM,aO,aJ,aP,aR,List.length_map];(repeat refine AI ?_);refine hK' _ _ ?_;clear hK' K')
  refine aB (g:=none) rfl rfl fun K' hK'=>?_;simp (maxSteps:=4000000) only[sH,↓sP,sA,tyS,simprocAttr,aK,aG,aN,aI,aF,aL,aH,aM,aO,aJ,aP,aR,List.length_map];repeat refine AI ?_
  refine hK' _ _ ?_;clear hK' K';simp only[sE,↓reduceIte,simprocAttr,aK,aG,aN,aI,aF,aL,aH,aM,aO,aJ,aP,aR];repeat refine AI ?_
  refine hK _ _ _ ?_;clear hK K;refine aQ (b:=decide ((1000:Int)<ls.length)) rfl (fun hb=>?_) (fun hb=>?_)
  ·
   refine aD fun K hK=>aC (by kernel_rfl) ?_;simp (maxSteps:=4000000) only[↓sP,sA,tyS,simprocAttr,aK,aG,aN,aI,aF,aL,aH,aM,aO,aJ,aP,aR];repeat refine AI ?_
   refine hK _ _ _ ?_;clear hK K;refine aT ?_;simp (maxSteps:=4000000) only[bA,Tryz.results21,aY,aZ,aX,↓sP,sA,tyS,simprocAttr,aK,aG,aN,aI,aF,aL,aH,aM,aO,aJ,aP,aR];have hE:dM b=2:=by unfold dM;rw[if_neg (by omega),h1 rfl];simp only;rw[if_pos (by simp at hb;omega)]
   refine aW [] (.slc []) (.int .i64 2) ?_ ⟨by simp only[fS,hE];rfl,by rw[hE]⟩;simp[HV.close,HV.closeL,CV.denil,CV.denilL,HV.norm,HV.toC,HV.toCL]
  refine aV ?_;simp (maxSteps:=4000000) only[↓sP,sA,tyS,simprocAttr,aK,aG,aN,aI,aF,aL,aH,aM,aO,aJ,aP,aR];repeat refine AI ?_
  refine hK _ _ _ ?_;clear hK K;refine aD fun K hK=>aC (by kernel_rfl) ?_;simp (maxSteps:=4000000) only[↓sP,sA,tyS,simprocAttr,aK,aG,aN,aI,aF,aL,aH,aM,aO,aJ,aP,aR];repeat refine AI ?_
  refine hK _ _ _ ?_;clear hK K;refine aT ?_;simp (maxSteps:=4000000) only[bA,Tryz.results21,aY,aZ,aX,↓sP,sA,tyS,simprocAttr,aK,aG,aN,aI,aF,aL,aH,aM,aO,aJ,aP,aR];have hE:dM b=0:=by unfold dM;rw[if_neg (by omega),h1 rfl];simp only;rw[if_neg (by simp at hb;omega)]
  refine aW [32] (.slc (ls.map lsC)) (.int .i64 0) ?_ ⟨by simp only[fS,hE,h1 rfl];rfl,by rw[hE]⟩;simp[HV.close,fob_at,upd_at,HV.norm,HV.toC,HV.closeL,HV.toCL,CV.denil,fL]
 refine bE ?_;refine iD 4 0 48 1 rfl rfl rfl rfl ?_;refine cA (α:={y:aU×List (List aU)//DecSt b y.1 y.2}) (fun y=>(fin [(0,.c (.slc (y.1.1.map u8))),(4,.own 32 y.1.2.length),(5,.ptr 24 0)],fob [(24,.box 4 (.c (.bool true))),(32,.row 48 1 (y.1.2.map lsC))])) 100 (fun y=>y.1.1.length) ⟨(b,[]),DecSt.init b⟩ (aS (by omega) (by simp[bK,fin_at,finA_at,upd_at,HV.men,HV.menL,HV.norm,HV.toC,HV.toCL]) (by simp[bM,fob_at,upd_at,none0_at,bY,HO.men,HV.men,HV.menL,HV.norm,HV.toC,HV.toCL])) ?_;rintro⟨⟨rest,ls⟩,hst⟩;simp only at hst;have hr1:=hst.2.1;have hr2:=hst.2.2;refine aD fun K hK=>?_;refine aD fun K hK=>aC (by kernel_rfl) ?_;simp (maxSteps:=4000000) only[↓sP,sA,tyS,simprocAttr,aK,aG,aN,aI,aF,aL,aH,aM,aO,aJ,aP,aR,List.length_map];repeat refine AI ?_
 refine hK _ _ _ ?_;clear hK K;refine aQ (b:=decide ((0:Int)<rest.length)) rfl (fun hb=>?_) (fun hb=>?_)
 ·
  refine aV ?_;simp (maxSteps:=4000000) only[↓sP,sA,tyS,simprocAttr,aK,aG,aN,aI,aF,aL,aH,aM,aO,aJ,aP,aR];repeat refine AI ?_
  refine hK _ _ _ ?_;clear hK K;refine bE ?_;have hne:rest≠[]:=by rintro rfl;simp at hb
  clear hb;refine aD fun K hK=>fJ (by kernel_rfl) ?_;simp only[sR,simprocAttr];refine cW (g:=none) rfl rfl fun K' hK'=>?_;simp (maxSteps:=4000000) only[sH,↓sP,sA,tyS,simprocAttr,aK,aG,aN,aI,aF,aL,aH,aM,aO,aJ,aP,aR,denilL_u8];repeat refine AI ?_
  refine hK' _ _ ?_;clear hK' K';refine fP (g:=none) 116 rfl rfl fun K' hK'=>?_;simp (maxSteps:=4000000) only[iN,lC,sH,↓sP,sA,tyS,simprocAttr,aK,aG,aN,aI,aF,aL,aH,aM,aO,aJ,aP,aR,denilL_u8];repeat refine AI ?_
  refine eE (by first|rfl|simp) ?_;try simp (maxSteps:=4000000) only[sH,↓sP,sA,tyS,simprocAttr,aK,aG,aN,aI,aF,aL,aH,aM,aO,aJ,aP,aR,denilL_u8]
  repeat refine AI ?_
  refine hK' _ _ ?_;clear hK' K';refine cW (g:=none) rfl rfl fun K' hK'=>?_;simp (maxSteps:=4000000) only[sH,↓sP,sA,tyS,simprocAttr,aK,aG,aN,aI,aF,aL,aH,aM,aO,aJ,aP,aR,denilL_u8];refine aA5 (args:=[_,_]) (aZ5 rest 10 (by omega)) ⟨rfl,rfl,rfl,rfl⟩ ?_;rintro u v x ⟨li,re,fd,rfl,rfl,rfl,hcut⟩;have hlt:=hcut.lt hne;repeat refine AI ?_
  refine hK' _ _ ?_;clear hK' K';iterate 7
   (refine cW (g:=none) rfl rfl fun K' hK'=>?_;simp only[sH,↓sP,sA,tyS,simprocAttr,aK,aG,aN,aI,aF,aL,aH,aM,aO,aJ,aP,aR,denilL_u8];(repeat refine AI ?_);refine hK' _ _ ?_;clear hK' K')
  simp only[sE,↓reduceIte,simprocAttr,aK,aG,aN,aI,aF,aL,aH,aM,aO,aJ,aP,aR];repeat refine AI ?_
  refine hK _ _ _ ?_;clear hK K;refine aD fun K hK=>aC (by kernel_rfl) ?_;simp (maxSteps:=4000000) only[↓sP,sA,tyS,simprocAttr,aK,aG,aN,aI,aF,aL,aH,aM,aO,aJ,aP,aR];repeat refine AI ?_
  refine hK _ _ _ ?_;clear hK K;refine aD fun K hK=>?_;refine aD fun K hK=>fJ (by kernel_rfl) ?_;simp only[sR,simprocAttr];refine cW (g:=none) rfl rfl fun K' hK'=>?_;simp (maxSteps:=4000000) only[sH,↓sP,sA,tyS,simprocAttr,aK,aG,aN,aI,aF,aL,aH,aM,aO,aJ,aP,aR,denilL_u8,nE,fR,List.range',List.map_cons,List.map_nil];repeat refine AI ?_
  refine hK' _ _ ?_;clear hK' K';refine fP (g:=none) 160 rfl rfl fun K' hK'=>?_;simp (maxSteps:=4000000) only[iN,lC,sH,↓sP,sA,tyS,simprocAttr,aK,aG,aN,aI,aF,aL,aH,aM,aO,aJ,aP,aR,denilL_u8,nE,fR,List.range',List.map_cons,List.map_nil];repeat refine AI ?_
  refine eE (by first|rfl|simp) ?_;try simp (maxSteps:=4000000) only[sH,↓sP,sA,tyS,simprocAttr,aK,aG,aN,aI,aF,aL,aH,aM,aO,aJ,aP,aR,denilL_u8,nE,fR,List.range',List.map_cons,List.map_nil]
  repeat refine AI ?_
  refine hK' _ _ ?_;clear hK' K';refine cW (g:=none) rfl rfl fun K' hK'=>?_;simp (maxSteps:=4000000) only[sH,↓sP,sA,tyS,simprocAttr,aK,aG,aN,aI,aF,aL,aH,aM,aO,aJ,aP,aR,denilL_u8,nE,fR,List.range',List.map_cons,List.map_nil];refine uF (args:=[_,_]) (aL5 li 32) (by simp) ⟨rfl,rfl,rfl,rfl⟩ ?_;repeat refine AI ?_
  refine hK' _ _ ?_;clear hK' K';simp only[sE,↓reduceIte,simprocAttr,aK,aG,aN,aI,aF,aL,aH,aM,aO,aJ,aP,aR];repeat refine AI ?_
  refine hK _ _ _ ?_;clear hK K;refine bE ?_;refine pZ 152 0 9 1 rfl rfl rfl rfl ?_;refine aL3 (ids:=[164,165,166]) (fin [(0,.c (.slc (rest.map u8))),(4,.own 32 ls.length),(5,.ptr 24 0),(7,.c (.slc (re.map u8))),(8,.c (.bool fd)),(9,.ptr 152 0)]) (fun i=>fob [(24,.box 4 (.c (.bool true))),(32,.row 48 1 (ls.map lsC)),(152,.box 48 (.own 168 i)),(168,.row 9 1 ((wsT li i).map .str))]) 200 (fun i=>yG li i) (fun p hp=>by simp at hp) (aB6 li 32 (by omega)) rfl rfl (by decide) ?_ ?_ ?_ ?_ ?_ rfl rfl ?_ ?_
  ·
   intro j x hx
   match j,hx with
   |0,hx=>cases hx;rfl
   |1,hx=>cases hx;rfl
   |2,hx=>cases hx;rfl
  · exact aS (by omega) (by simp[bK,fin_at,finA_at,upd_at,HV.men,HV.menL,HV.norm,HV.toC,HV.toCL]) (by simp[bM,fob_at,upd_at,none0_at,bY,nE,wsT,HO.men,HV.men,HV.menL,HV.norm,HV.toC,HV.toCL])
  · intro id hid;simp only[List.mem_cons,List.not_mem_nil,or_false]at hid;rcases hid with rfl|rfl|rfl<;>rfl
  · intro x hx;obtain⟨p,_,rfl⟩:=List.mem_map.1 hx;rfl
  · intro p hp;simp only[List.mem_cons,List.not_mem_nil,or_false]at hp;subst hp;exact Nat.le_of_ble_eq_true rfl
  ·
   intro i hi hΦ K hK;have hi':i<(bD 32 li).length:=by simpa using hi
   have hwl:=lY (r:=li) (Nat.le_of_lt hi');have hsl:=dK 32 li;obtain⟨p,hp⟩: ∃p,p=(bD 32 li)[i]:=⟨_,rfl⟩;have hpl:p.length≤li.length:=by rw[hp];exact jD 32 li _ (List.getElem_mem hi')
   have hx:(List.map (fun p=>[CV.slc (List.map u8 p)]) (bD 32 li))[i]=[CV.slc (p.map u8)]:=by rw[List.getElem_map,hp]
   rw[hx];simp only[sY];have hbc:fA (p.map u8)=some p:=bytesC_map p;refine aC (by kernel_rfl) ?_;simp (maxSteps:=4000000) only[↓sP,sA,tyS,simprocAttr,aK,aG,aN,aI,aF,aL,aH,aM,aO,aJ,aP,aR];repeat refine AI ?_
   refine hK _ _ _ ?_;clear hK K;refine bE ?_;refine aD fun K hK=>aC (by kernel_rfl) ?_;simp only[sR,simprocAttr];iterate 2
    (refine aB (g:=none) rfl rfl fun K' hK'=>?_;simp only[sH,↓sP,sA,tyS,simprocAttr,aK,aG,aN,aI,aF,aL,aH,aM,aO,aJ,aP,aR,hbc];(repeat refine AI ?_);refine hK' _ _ ?_;clear hK' K')
   refine aB (g:=none) rfl rfl fun K' hK'=>?_;simp (maxSteps:=4000000) only[sH,↓sP,sA,tyS,simprocAttr,aK,aG,aN,aI,aF,aL,aH,aM,aO,aJ,aP,aR,hbc];refine cD (args:=[_]) (bE4 p (by omega)) ⟨rfl,rfl,rfl,rfl⟩ ?_;rintro u v ⟨rfl,rfl⟩;repeat refine AI ?_
   refine hK' _ _ ?_;clear hK' K';iterate 5
    (refine aB (g:=none) rfl rfl fun K' hK'=>?_;simp only[sH,↓sP,sA,tyS,simprocAttr,aK,aG,aN,aI,aF,aL,aH,aM,aO,aJ,aP,aR,hbc];(repeat refine AI ?_);refine hK' _ _ ?_;clear hK' K')
   simp only[sE,↓reduceIte,simprocAttr,aK,aG,aN,aI,aF,aL,aH,aM,aO,aJ,aP,aR];repeat refine AI ?_
   refine hK _ _ _ ?_;clear hK K;refine aD fun K hK=>?_;refine aD fun K hK=>aC (by kernel_rfl) ?_;simp (maxSteps:=4000000) only[↓sP,sA,tyS,simprocAttr,aK,aG,aN,aI,aF,aL,aH,aM,aO,aJ,aP,aR];repeat refine AI ?_
   refine hK _ _ _ ?_;clear hK K;refine aQ (b:=!(unW p).isSome) rfl (fun hb=>?_) (fun hb=>?_)
   ·
    refine aD fun K hK=>aC (by kernel_rfl) ?_;simp (maxSteps:=4000000) only[↓sP,sA,tyS,simprocAttr,aK,aG,aN,aI,aF,aL,aH,aM,aO,aJ,aP,aR];repeat refine AI ?_
    refine hK _ _ _ ?_;clear hK K;refine bW ?_;simp (maxSteps:=4000000) only[↓sP,sA,tyS,simprocAttr,aK,aG,aN,aI,aF,aL,aH,aM,aO,aJ,aP,aR];clear hK K;clear hK K;exact key false ls _ _ _ (fun h=>by cases h) (fun _=>hst.bad hcut hne (aT2 hi' (by rw[←hp];simpa using hb))) (by omega) (aS (by omega) (by simp[bK,fin_at,finA_at,upd_at,HV.men,HV.menL,HV.norm,HV.toC,HV.toCL]) (by simp[bM,fob_at,upd_at,none0_at,bY,HO.men,HV.men,HV.menL,HV.norm,HV.toC,HV.toCL]))
   refine aV ?_;simp (maxSteps:=4000000) only[↓sP,sA,tyS,simprocAttr,aK,aG,aN,aI,aF,aL,aH,aM,aO,aJ,aP,aR];repeat refine AI ?_
   refine hK _ _ _ ?_;clear hK K;refine aC (by kernel_rfl) ?_;simp only[sR,simprocAttr];iterate 5
    (refine aB (g:=none) rfl rfl fun K' hK'=>?_;simp only[sH,↓sP,sA,tyS,simprocAttr,aK,aG,aN,aI,aF,aL,aH,aM,aO,aJ,aP,aR,List.length_append,List.length_map,hwl];(repeat refine AI ?_);refine hK' _ _ ?_;clear hK' K')
   simp only[sE,↓reduceIte,simprocAttr,aK,aG,aN,aI,aF,aL,aH,aM,aO,aJ,aP,aR];refine⟨(show Fits 200 _ _ (fin []) _ 200 from aS (by omega) trivial ?_),uH hi' hΦ (by rw[←hp];simpa using hb)⟩;rw[yH hi',←hp];simp[bM,fob_at,upd_at,none0_at,bY,HO.men,HV.men,HV.menL,HV.norm,HV.toC,HV.toCL]
  intro hΦ;simp only[sE,↓reduceIte,simprocAttr,aK,aG,aN,aI,aF,aL,aH,aM,aO,aJ,aP,aR];rw[List.length_map]at hΦ⊢;have hwl:=lY (r:=li) (Nat.le_refl _);have hul:=aZ3 hΦ;have hsl:=dK 32 li;obtain⟨ws,hws⟩: ∃ws,ws=wsT li (bD 32 li).length:=⟨_,rfl⟩;rw[←hws]at hul hwl;rw[←hws,←hwl];repeat refine AI ?_
  refine hK _ _ _ ?_;clear hK K;refine aD fun K hK=>?_;cases fd
  ·
   refine eK [168] (cN (fr2:=fin [(0,.c (.slc (rest.map u8))),(4,.own 32 ls.length),(5,.ptr 24 0),(7,.c (.slc (re.map u8))),(8,.c (.bool false)),(9,.ptr 152 0)]) (ob2:=fob [(24,.box 4 (.c (.bool true))),(32,.row 48 1 (ls.map lsC)),(152,.box 48 (.c (.slc (ws.map .str))))]) (nx2:=300) (aS (by omega) (by simp[bK,iB,fin_at,finA_at,upd_at,fob_at,HV.close,HV.closeL,CV.denil,CV.denilL,denilL_u8,HV.men,HV.menL,HV.norm,HV.toC,HV.toCL]) (by simp[bM,iC,fob_at,upd_at,none0_at,bY,HO.close,HV.close,HV.closeL,CV.denil,denilL_str,HO.men,HV.men,HV.menL,HV.norm,HV.toC,HV.toCL])) ?_);refine aD fun K hK=>aC (by kernel_rfl) ?_;simp only[sR,simprocAttr];iterate 3
    (refine aB (g:=none) rfl rfl fun K' hK'=>?_;simp only[sH,↓sP,sA,tyS,simprocAttr,aK,aG,aN,aI,aF,aL,aH,aM,aO,aJ,aP,aR];(repeat refine AI ?_);refine hK' _ _ ?_;clear hK' K')
   iterate 3
    (refine aB (g:=some (44,false)) rfl rfl fun K' hK'=>?_;simp only[sH,↓sP,sA,tyS,simprocAttr,aK,aG,aN,aI,aF,aL,aH,aM,aO,aJ,aP,aR];(repeat refine AI ?_);refine hK' _ _ ?_;clear hK' K')
   refine aB (g:=none) rfl rfl fun K' hK'=>?_;simp (maxSteps:=4000000) only[sH,↓sP,sA,tyS,simprocAttr,aK,aG,aN,aI,aF,aL,aH,aM,aO,aJ,aP,aR];repeat refine AI ?_
   refine hK' _ _ ?_;clear hK' K';simp only[sE,↓reduceIte,simprocAttr,aK,aG,aN,aI,aF,aL,aH,aM,aO,aJ,aP,aR];repeat refine AI ?_
   refine hK _ _ _ ?_;clear hK K;refine aQ (b:=true) rfl (fun hb=>?_) (fun hb=>?_)
   ·
    refine aD fun K hK=>aC (by kernel_rfl) ?_;simp (maxSteps:=4000000) only[↓sP,sA,tyS,simprocAttr,aK,aG,aN,aI,aF,aL,aH,aM,aO,aJ,aP,aR];repeat refine AI ?_
    refine hK _ _ _ ?_;clear hK K;refine bW ?_;simp (maxSteps:=4000000) only[↓sP,sA,tyS,simprocAttr,aK,aG,aN,aI,aF,aL,aH,aM,aO,aJ,aP,aR];clear hK K;exact key false ls _ _ _ (fun h=>by cases h) (fun _=>hst.bad0 hcut hne) (by omega) (aS (by omega) (by simp[bK,fin_at,finA_at,upd_at,HV.men,HV.menL,HV.norm,HV.toC,HV.toCL]) (by simp[bM,fob_at,upd_at,none0_at,bY,HO.men,HV.men,HV.menL,HV.norm,HV.toC,HV.toCL]))
   cases hb
  refine eK [168] (cN (fr2:=fin [(0,.c (.slc (rest.map u8))),(4,.own 32 ls.length),(5,.ptr 24 0),(7,.c (.slc (re.map u8))),(8,.c (.bool true)),(9,.ptr 152 0)]) (ob2:=fob [(24,.box 4 (.c (.bool true))),(32,.row 48 1 (ls.map lsC)),(152,.box 48 (.c (.slc (ws.map .str))))]) (nx2:=300) (aS (by omega) (by simp[bK,iB,fin_at,finA_at,upd_at,fob_at,HV.close,HV.closeL,CV.denil,CV.denilL,denilL_u8,HV.men,HV.menL,HV.norm,HV.toC,HV.toCL]) (by simp[bM,iC,fob_at,upd_at,none0_at,bY,HO.close,HV.close,HV.closeL,CV.denil,denilL_str,HO.men,HV.men,HV.menL,HV.norm,HV.toC,HV.toCL])) ?_);refine aD fun K hK=>aC (by kernel_rfl) ?_;simp only[sR,simprocAttr];iterate 3
   (refine aB (g:=none) rfl rfl fun K' hK'=>?_;simp only[sH,↓sP,sA,tyS,simprocAttr,aK,aG,aN,aI,aF,aL,aH,aM,aO,aJ,aP,aR];(repeat refine AI ?_);refine hK' _ _ ?_;clear hK' K')
  refine aB (g:=some (44,false)) rfl rfl fun K' hK'=>?_;simp (maxSteps:=4000000) only[sH,↓sP,sA,tyS,simprocAttr,aK,aG,aN,aI,aF,aL,aH,aM,aO,aJ,aP,aR];repeat refine AI ?_
  refine hK' _ _ ?_;clear hK' K';refine aB (g:=some (44,false)) rfl rfl fun K' hK'=>?_;simp (maxSteps:=4000000) only[sH,↓sP,sA,tyS,simprocAttr,aK,aG,aN,aI,aF,aL,aH,aM,aO,aJ,aP,aR];refine bH (args:=[_]) (xV ws (by omega)) ⟨rfl,rfl,rfl,rfl⟩ ?_;rintro u rfl;repeat refine AI ?_
  refine hK' _ _ ?_;clear hK' K';refine aB (g:=some (44,false)) rfl rfl fun K' hK'=>?_;simp (maxSteps:=4000000) only[sH,↓sP,sA,tyS,simprocAttr,aK,aG,aN,aI,aF,aL,aH,aM,aO,aJ,aP,aR];repeat refine AI ?_
  refine hK' _ _ ?_;clear hK' K';refine aB (g:=none) rfl rfl fun K' hK'=>?_;simp (maxSteps:=4000000) only[sH,↓sP,sA,tyS,simprocAttr,aK,aG,aN,aI,aF,aL,aH,aM,aO,aJ,aP,aR];repeat refine AI ?_
  refine hK' _ _ ?_;clear hK' K';simp only[sE,↓reduceIte,simprocAttr,aK,aG,aN,aI,aF,aL,aH,aM,aO,aJ,aP,aR];repeat refine AI ?_
  refine hK _ _ _ ?_;clear hK K;refine aQ (b:=jB ws !=0) rfl (fun hb=>?_) (fun hb=>?_)
  ·
   refine aD fun K hK=>aC (by kernel_rfl) ?_;simp (maxSteps:=4000000) only[↓sP,sA,tyS,simprocAttr,aK,aG,aN,aI,aF,aL,aH,aM,aO,aJ,aP,aR];repeat refine AI ?_
   refine hK _ _ _ ?_;clear hK K;refine bW ?_;simp (maxSteps:=4000000) only[↓sP,sA,tyS,simprocAttr,aK,aG,aN,aI,aF,aL,aH,aM,aO,aJ,aP,aR];clear hK K;exact key false ls _ _ _ (fun h=>by cases h) (fun _=>hst.bad hcut hne (by rw[hul,if_neg];unfold okL;simpa using hb)) (by omega) (aS (by omega) (by simp[bK,fin_at,finA_at,upd_at,HV.men,HV.menL,HV.norm,HV.toC,HV.toCL]) (by simp[bM,fob_at,upd_at,none0_at,bY,HO.men,HV.men,HV.menL,HV.norm,HV.toC,HV.toCL]))
  refine aV ?_;simp (maxSteps:=4000000) only[↓sP,sA,tyS,simprocAttr,aK,aG,aN,aI,aF,aL,aH,aM,aO,aJ,aP,aR];repeat refine AI ?_
  refine hK _ _ _ ?_;clear hK K;refine aC (by kernel_rfl) ?_;simp only[sR,simprocAttr];iterate 7
   (refine aB (g:=none) rfl rfl fun K' hK'=>?_;simp only[sH,↓sP,sA,tyS,simprocAttr,aK,aG,aN,aI,aF,aL,aH,aM,aO,aJ,aP,aR,List.length_append,List.length_map];(repeat refine AI ?_);refine hK' _ _ ?_;clear hK' K')
  simp only[sE,↓reduceIte,simprocAttr,aK,aG,aN,aI,aF,aL,aH,aM,aO,aJ,aP,aR];have hok:okL ws=true:=by unfold okL;simpa using hb
  refine⟨⟨(re,ls++[ws]),hst.next hcut hne (by rw[hul,if_pos hok])⟩,aS (by omega) ?_ ?_,hlt.1⟩
  · simp[bK,upd_at,fin_at,HV.men]
  simp only[bM,List.map_append];exact⟨rfl,by omega,trivial,rfl,by omega,trivial,trivial⟩
 refine bW ?_;simp (maxSteps:=4000000) only[↓sP,sA,tyS,simprocAttr,aK,aG,aN,aI,aF,aL,aH,aM,aO,aJ,aP,aR];clear hK K;have hr0:rest=[]:=by simpa using hb
 subst hr0;exact key true ls _ _ _ (fun _=>hst.fin) (fun h=>by cases h) (by omega) (aS (by omega) (by simp[bK,fin_at,finA_at,upd_at,HV.men,HV.menL,HV.norm,HV.toC,HV.toCL]) (by simp[bM,fob_at,upd_at,none0_at,bY,HO.men,HV.men,HV.menL,HV.norm,HV.toC,HV.toCL]))
end Go.Proofs.YtflnfidkociekaaGreatDoor
namespace Go.Pl
open Go Go.Hl
theorem nK (c:UInt8): ∀l:List UInt8,(bD c l).length=Lib.countByte l c+1
  |[]=>rfl
  |b::l=>by
    have ih:=nK c l;unfold Lib.countByte at ih⊢;rw[List.count_cons];unfold bD;by_cases h:b=c
    · rw[if_pos h]
      simp only[List.length_cons,ih,h,beq_self_eq_true,if_true]
    · have hb:(b==c)=false:=by simpa using h
      rw[if_neg h];simp only[hb,Bool.false_eq_true,if_false,Nat.add_zero];split
      · rename_i x xs hx
        rw[hx]at ih;simpa using ih
      · rename_i hx
        exact absurd hx (cJ c l)
theorem aB7 {c:UInt8}{l:List UInt8}(h:(bD c l).length=1):bD c l=[l]:=by
  by_cases hn:dO l c<0;all_goals grind[nG,eW,List.length_pos_iff,cJ,List.length_cons]
def SplSt (l:aU)(c:UInt8)(i:Nat)(rest:aU)(a:List aU):Prop:=
  a.length=(bD c l).length∧a.take i=(bD c l).take i∧(bD c l).drop i=bD c rest∧i<(bD c l).length∧rest.length≤l.length
section
variable {l rest:aU}{c:UInt8}{i k:Nat}{a:List aU}
theorem SplSt.init (l:aU)(c:UInt8):SplSt l c 0 l (List.replicate (bD c l).length []):=
  ⟨by simp,by simp,rfl,List.length_pos_iff.2 (cJ c l),Nat.le_refl _⟩
theorem SplSt.next (h:SplSt l c i rest a)(hk:dO rest c=(k:Int)):k<rest.length∧SplSt l c (i+1) (rest.drop (k+1)) (a.set i (rest.take k)):=by
  obtain⟨h1,h2,h3,h4,h5⟩:=h;obtain⟨k',e1,e2,e3⟩:=eW (l:=rest) (c:=c) (by omega);have:k'=k:=by omega
  subst this;rw[e3]at h3;have h6:=List.drop_eq_getElem_cons h4;rw[h6]at h3;have h7:=List.head_eq_of_cons_eq h3;have h8:=List.tail_eq_of_cons_eq h3;refine⟨e2,by grind,?_,h8,?_,by grind⟩
  · rw[List.take_succ_eq_append_getElem (by grind),List.take_succ_eq_append_getElem h4,List.getElem_set_self,List.take_set_of_le (Nat.le_refl _),h2,h7]
  grind[Nat.lt_or_ge,bD,List.drop_eq_nil_of_le,absurd,cJ]
theorem SplSt.last (h:SplSt l c i rest a)(hk:dO rest c<0):i+1=(bD c l).length:=by
  obtain⟨h1,h2,h3,h4,h5⟩:=h;rw[nG hk]at h3;have:=congrArg List.length h3;grind
theorem SplSt.fin (h:SplSt l c i rest a)(hi:i+1=(bD c l).length):a.set i rest=bD c l:=by
  obtain⟨h1,h2,h3,h4,h5⟩:=h;have h6:(bD c rest).length=1:=by rw[←h3,List.length_drop];omega
  rw[aB7 h6]at h3;have e1:a.set i rest=(a.set i rest).take (i+1):=(List.take_of_length_le (by grind)).symm;rw[e1,List.take_succ_eq_append_getElem (by grind),List.getElem_set_self,List.take_set_of_le (Nat.le_refl _),h2];grind[List.take_append_drop,bD]
end
def gP (c:UInt8):Bool:=decide (48≤c.toNat)&&decide (c.toNat≤57)
def dS :aU→Nat→Option Nat
  |[],n=>some n
  |c::l,n=>if gP c then dS l (10*n+(c.toNat-48))else none
def dW (s:aU):Bool:=decide (s.length<1)||decide (13<s.length)||(decide (1<s.length)&&s.getD 0 0==48)
def eY (s:aU):Option Int:=if dW s then none else match dS s 0 with|some n=>if 1099511627776<n then none else some (n:Int)|none=>none
def DgSt (s:aU)(i n:Nat):Prop:=i≤s.length∧dS s 0=dS (s.drop i) n∧n<10^i
theorem DgSt.init (s:aU):DgSt s 0 0:=⟨Nat.zero_le _,rfl,by omega⟩
variable {i n:Nat}{s:aU}
theorem DgSt.next (h:DgSt s i n)(hi:i<s.length)(hd:gP s[i]=true):DgSt s (i+1) (10*n+(s[i].toNat-48)):=by
  obtain⟨h1,h2,h3⟩:=h;refine⟨hi,?_,?_⟩
  · rw[h2,List.drop_eq_getElem_cons hi,dS,if_pos hd]
  · simp only[gP,Bool.and_eq_true,decide_eq_true_eq]at hd
    grind
theorem DgSt.bad (h:DgSt s i n)(hi:i<s.length)(hd:gP s[i]=false):dS s 0=none:=by
  rw[h.2.1,List.drop_eq_getElem_cons hi,dS,if_neg (by grind)]
theorem DgSt.fin (h:DgSt s i n)(hi:i=s.length):dS s 0=some n:=by
  rw[h.2.1,hi,List.drop_length];rfl
theorem DgSt.lt (h:DgSt s i n)(hs:s.length≤13):n<10000000000000:=by
  have:10^i≤10^13:=Nat.pow_le_pow_right (by omega) (Nat.le_trans h.1 hs);have:=h.2.2;omega
theorem kJ (h:dW s=true):eY s=none:=by unfold eY;grind
theorem kZ (h:dS s 0=none):eY s=none:=by grind[eY]
theorem yI (h:dS s 0=some n)(h1:1099511627776<n):eY s=none:=by simp_all[eY,if_pos]
theorem wD {n:Nat}(h0:dW s=false)(h:dS s 0=some n)(h1: ¬1099511627776<n):eY s=some (n:Int):=by simp_all[eY,if_neg]
theorem yJ (c:UInt8):gP c=(decide ((48:Int)≤(c.toNat:Int))&&decide ((c.toNat:Int)≤57)):=by
  unfold gP;grind
end Go.Pl
