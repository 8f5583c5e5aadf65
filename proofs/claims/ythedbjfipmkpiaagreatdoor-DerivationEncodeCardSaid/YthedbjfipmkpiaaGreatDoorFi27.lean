/- DerivationEncode: for any derivation the law returns true and leaves it as it was: Encode and Documents answer as the reference's do. The listed tables of the library are tied to the program's text by the card. By an AI agent. -/
import Derived.Test.YthedbjfipmkpiaaGreatDoorHdU3
import Derived.Test.YthedbjfipmkpiaaGreatDoorHdSb
import Derived.Test.YthedbjfipmkpiaaGreatDoorHdW5
import Derived.Test.YthedbjfipmkpiaaGreatDoorHdW9
import Derived.Test.YthedbjfipmkpiaaGreatDoorPl02f
import Derived.Test.YthedbjfipmkpiaaGreatDoorRows
import Derived.Lay
import Derived.SevenTiedAt
import Derived.Test.YthedbjfipmkpiaaGreatDoorCards
import Derived.Test.YthedbjfipmkpiaaGreatDoorTie
set_option linter.unusedSimpArgs false
set_option linter.unusedVariables false
set_option linter.defProp false
namespace Go.Proofs.YthedbjfipmkpiaaGreatDoor
open Go Go.Hl Go.Pl
set_option maxRecDepth 10000
set_option maxHeartbeats 4000000
def cN1 (d:Dv):Prop:=d.l.length≤40∧ ∀x∈d.l,x.d.length≤20∧x.f.length≤20
theorem cJ0 (d:Dv)(hl:d.l.length<2^63):cK Tryz.prog 20 [d.cv] (fun v=> ∃c,v= .bool c∧(c=true→cN1 d)):=by
 refine bA Tryz.func20 rfl (by kernel_rfl) (bB _) (Nat.le_of_ble_eq_true rfl) ?_;refine aD fun K hK=>aC (by kernel_rfl) ?_;simp (maxSteps:=4000000) only[↓sP,sA,tyS,simprocAttr];repeat refine AI ?_
 refine hK _ _ _ ?_;clear hK K;refine aD fun K hK=>?_;refine aD fun K hK=>aC (by kernel_rfl) ?_;simp (maxSteps:=4000000) only[↓sP,sA,tyS,simprocAttr];repeat refine AI ?_
 refine hK _ _ _ ?_;clear hK K;refine aL ?_;refine bR (α:={i:Nat//i≤d.l.length∧ ∀x∈d.l.take i,x.d.length≤20∧x.f.length≤20}) (fun i=>(fin [(1,.ptr 0 0),(3,.c (.int .i64 i.1))],fob [(0,.box 50 (.c d.cv))])) 200 (fun i=>d.l.length-i.1) ⟨0,by omega,by simp⟩ (aG (by omega) (by simp[aX,fin_at,finA_at,upd_at,HV.men,HV.menL,HV.norm,HV.toC,HV.toCL]) (by simp[aZ,fob_at,upd_at,none0_at,bL,HO.men,HV.men,HV.menL,HV.norm,HV.toC,HV.toCL])) ?_;rintro⟨i,hi,hI⟩;simp only at hi hI⊢;refine aD fun K hK=>?_;refine aD fun K hK=>aC (by kernel_rfl) ?_;simp only[sR,simprocAttr];iterate 5
  (refine aB (g:=none) rfl rfl fun K' hK'=>?_;simp only[sH,↓sP,sA,tyS,simprocAttr,List.length_map];(repeat refine AI ?_);refine hK' _ _ ?_;clear hK' K')
 simp only[sE,↓reduceIte,simprocAttr];repeat refine AI ?_
 refine hK _ _ _ ?_;clear hK K;refine aF (b:=decide ((i:Int)<d.l.length)) rfl (fun hb=>?_) (fun hb=>?_)
 ·
  have hlt:i<d.l.length:=by have:=of_decide_eq_true hb;omega
  clear hb;refine aK ?_;simp (maxSteps:=4000000) only[↓sP,sA,tyS,simprocAttr];repeat refine AI ?_
  refine hK _ _ _ ?_;clear hK K;refine aD fun K hK=>?_;refine aL ?_;refine aD fun K hK=>aC (by kernel_rfl) ?_;simp only[sR,simprocAttr];iterate 9
   (refine aB (g:=none) rfl rfl fun K' hK'=>?_;simp only[sH,↓sP,sA,tyS,simprocAttr,Int.natCast_nonneg,Int.ofNat_lt,hlt,aY hlt,List.length_map];(repeat refine AI ?_);refine hK' _ _ ?_;clear hK' K')
  refine aO 18 rfl (fun h4_18=>?_) (fun h4_18=>?_)
  ·
   iterate 8
    (refine aB (g:=some (19,false)) rfl rfl fun K' hK'=>?_;simp only[sH,↓sP,sA,tyS,simprocAttr,Int.natCast_nonneg,Int.ofNat_lt,hlt,aY hlt,List.length_map,h4_18];(repeat refine AI ?_);refine hK' _ _ ?_;clear hK' K')
   refine aB (g:=none) rfl rfl fun K' hK'=>?_;simp (maxSteps:=4000000) only[sH,↓sP,sA,tyS,simprocAttr,Int.natCast_nonneg,Int.ofNat_lt,hlt,aY hlt,List.length_map,h4_18];repeat refine AI ?_
   refine hK' _ _ ?_;clear hK' K';simp only[sE,↓reduceIte,simprocAttr];repeat refine AI ?_
   refine hK _ _ _ ?_;clear hK K;refine aF (b:=true) rfl (fun hb=>?_) (fun hb=>?_)
   ·
    refine aD fun K hK=>aC (by kernel_rfl) ?_;simp (maxSteps:=4000000) only[↓sP,sA,tyS,simprocAttr];repeat refine AI ?_
    refine hK _ _ _ ?_;clear hK K;refine aJ ?_;simp (maxSteps:=4000000) only[aR,Tryz.results20,aP,aQ,aN,↓sP,sA,tyS,simprocAttr];exact aI [] (.bool false) rfl ⟨false,rfl,fun h=>by cases h⟩
   cases hb
  iterate 8
   (refine aB (g:=some (19,false)) rfl rfl fun K' hK'=>?_;simp only[sH,↓sP,sA,tyS,simprocAttr,Int.natCast_nonneg,Int.ofNat_lt,hlt,aY hlt,List.length_map,h4_18];(repeat refine AI ?_);refine hK' _ _ ?_;clear hK' K')
  refine aB (g:=none) rfl rfl fun K' hK'=>?_;simp (maxSteps:=4000000) only[sH,↓sP,sA,tyS,simprocAttr,Int.natCast_nonneg,Int.ofNat_lt,hlt,aY hlt,List.length_map,h4_18];repeat refine AI ?_
  refine hK' _ _ ?_;clear hK' K';refine aO 27 rfl (fun h4_27=>?_) (fun h4_27=>?_)
  ·
   simp only[h4_27];simp only[sE,↓reduceIte,simprocAttr];repeat refine AI ?_
   refine hK _ _ _ ?_;clear hK K;refine aF (b:=true) rfl (fun hb=>?_) (fun hb=>?_)
   ·
    refine aD fun K hK=>aC (by kernel_rfl) ?_;simp (maxSteps:=4000000) only[↓sP,sA,tyS,simprocAttr];repeat refine AI ?_
    refine hK _ _ _ ?_;clear hK K;refine aJ ?_;simp (maxSteps:=4000000) only[aR,Tryz.results20,aP,aQ,aN,↓sP,sA,tyS,simprocAttr];exact aI [] (.bool false) rfl ⟨false,rfl,fun h=>by cases h⟩
   cases hb
  simp only[h4_27];simp only[sE,↓reduceIte,simprocAttr];repeat refine AI ?_
  refine hK _ _ _ ?_;clear hK K;refine aF (b:=false) rfl (fun hb=>?_) (fun hb=>?_)
  · cases hb
  refine aK ?_;simp (maxSteps:=4000000) only[↓sP,sA,tyS,simprocAttr];repeat refine AI ?_
  refine hK _ _ _ ?_;clear hK K;refine aC (by kernel_rfl) ?_;simp (maxSteps:=4000000) only[↓sP,sA,tyS,simprocAttr,IntWalk.i64_in _ (show-9223372036854775808≤(i:Int)+1∧(i:Int)+1≤9223372036854775807 by omega)];refine⟨⟨i+1,hlt,fun x hx=>?_⟩,aG (by omega) (by simp[aX,fin_at,finA_at,upd_at,HV.men,HV.menL,HV.norm,HV.toC,HV.toCL]) (by simp[aZ,fob_at,upd_at,none0_at,bL,HO.men,HV.men,HV.menL,HV.norm,HV.toC,HV.toCL]),?_⟩
  ·
   rw[List.take_succ_eq_append_getElem hlt]at hx;rcases List.mem_append.1 hx with hx|hx
   · exact hI x hx
   rw[List.mem_singleton.1 hx];have h1:=h4_18;have h2:=h4_27;simp at h1 h2;omega
  show d.l.length-(i+1)<d.l.length-i;omega
 have hie:i=d.l.length:=by have:=of_decide_eq_false hb;omega
 subst hie;clear hb;rw[List.take_length]at hI;refine bJ ?_;simp (maxSteps:=4000000) only[↓sP,sA,tyS,simprocAttr];clear hK K;repeat refine AI ?_
 refine hK _ _ _ ?_;clear hK K;refine aD fun K hK=>aC (by kernel_rfl) ?_;simp only[sR,simprocAttr];iterate 5
  (refine aB (g:=none) rfl rfl fun K' hK'=>?_;simp only[sH,↓sP,sA,tyS,simprocAttr,List.length_map,eT,eU,eV,eW];(repeat refine AI ?_);refine hK' _ _ ?_;clear hK' K')
 refine aO 32 rfl (fun h6_32=>?_) (fun h6_32=>?_)
 ·
  iterate 20
   (refine aB (g:=some (33,true)) rfl rfl fun K' hK'=>?_;simp only[sH,↓sP,sA,tyS,simprocAttr,List.length_map,eT,eU,eV,eW,h6_32];(repeat refine AI ?_);refine hK' _ _ ?_;clear hK' K')
  iterate 2
   (refine aB (g:=none) rfl rfl fun K' hK'=>?_;simp only[sH,↓sP,sA,tyS,simprocAttr,List.length_map,eT,eU,eV,eW,h6_32];(repeat refine AI ?_);refine hK' _ _ ?_;clear hK' K')
  simp only[sE,↓reduceIte,simprocAttr];repeat refine AI ?_
  refine hK _ _ _ ?_;clear hK K;refine aJ ?_;simp (maxSteps:=4000000) only[aR,Tryz.results20,aP,aQ,aN,↓sP,sA,tyS,simprocAttr];first
   |exact aI [] (.bool _) rfl ⟨_,rfl,fun _=>⟨by have:=of_decide_eq_true h6_32;omega,hI⟩⟩
   |exact aI [] (.bool false) rfl ⟨false,rfl,fun h=>by cases h⟩
 iterate 20
  (refine aB (g:=some (33,true)) rfl rfl fun K' hK'=>?_;simp only[sH,↓sP,sA,tyS,simprocAttr,List.length_map,eT,eU,eV,eW,h6_32];(repeat refine AI ?_);refine hK' _ _ ?_;clear hK' K')
 iterate 2
  (refine aB (g:=none) rfl rfl fun K' hK'=>?_;simp only[sH,↓sP,sA,tyS,simprocAttr,List.length_map,eT,eU,eV,eW,h6_32];(repeat refine AI ?_);refine hK' _ _ ?_;clear hK' K')
 simp only[sE,↓reduceIte,simprocAttr];repeat refine AI ?_
 refine hK _ _ _ ?_;clear hK K;refine aJ ?_;simp (maxSteps:=4000000) only[aR,Tryz.results20,aP,aQ,aN,↓sP,sA,tyS,simprocAttr];first
  |exact aI [] (.bool _) rfl ⟨_,rfl,fun _=>⟨by have:=of_decide_eq_true h6_32;omega,hI⟩⟩
  |exact aI [] (.bool false) rfl ⟨false,rfl,fun h=>by cases h⟩
structure DvT (d:Dv):Prop where
 t:I64 d.t
 r:I64 d.r
 l: ∀x∈d.l,I64 x.k∧I64 x.n∧ ∀n∈x.f,I64 n
 ll:d.l.length<2^63
theorem cN2 {d:Dv}(h:DvT d)(hf:cN1 d):DvW d:=by
 refine⟨h.t,h.r,fun x hx=>?_,?_,by have:=hf.1;omega⟩
 · obtain⟨h1,h2,h3⟩:=h.l x hx;obtain⟨h4,h5⟩:=hf.2 x hx;exact⟨h1,h2,h3,by omega,by omega⟩
 have h1:=Pl.docsL_le (X:=d.l) (c:=20) fun x hx=>(hf.2 x hx).1;have h2:=hf.1;have h3:=aB6 d.l;rw[gR,List.length_append,h3];have:(jS d).length=2:=rfl;omega
theorem aP6 : ∀(l a:List aH),(l.foldl mP a).length≤a.length+l.length
 |[],a=>by simp
 |w::l,a=>by
  have h1:=aP6 l (mP a w);have h2:=aJ7 a w;rw[List.foldl_cons,List.length_cons];omega
theorem bW3 (X:List Ln):(aB5 X).length≤(dL X).length:=by
 have:=aP6 (dws (dL X)) [];rw[eK]at this;simpa[aB5,nI]using this
theorem aV3 (d:Dv)(hd:DvT d):nL Tryz.prog 5 tabs [d.cv] (fun v=>v= .bool true):=by
 refine bA (args:=[.c d.cv]) Tryz.func5 rfl (by kernel_rfl) (fR tabs [d.cv]) (Nat.le_of_ble_eq_true rfl) ?_;unfold fN;refine aD fun K hK=>aC (by kernel_rfl) ?_;simp (maxSteps:=4000000) only[↓sP,sA,tyS,simprocAttr];repeat refine AI ?_
 refine hK _ _ _ ?_;clear hK K;refine aD fun K hK=>?_;refine aD fun K hK=>aC (by kernel_rfl) ?_;simp only[sR,simprocAttr];refine aB (g:=none) rfl rfl fun K' hK'=>?_;simp (maxSteps:=4000000) only[sH,↓sP,sA,tyS,simprocAttr];repeat refine AI ?_
 refine hK' _ _ ?_;clear hK' K';refine aB (g:=none) rfl rfl fun K' hK'=>?_;simp (maxSteps:=4000000) only[sH,↓sP,sA,tyS,simprocAttr];refine aU (args:=[_]) (cJ0 d hd.ll) ⟨rfl,rfl,rfl,rfl⟩ ?_;rintro u ⟨c,rfl,hc⟩;repeat refine AI ?_
 refine hK' _ _ ?_;clear hK' K';refine aB (g:=none) rfl rfl fun K' hK'=>?_;simp (maxSteps:=4000000) only[sH,↓sP,sA,tyS,simprocAttr];repeat refine AI ?_
 refine hK' _ _ ?_;clear hK' K';simp only[sE,↓reduceIte,simprocAttr];repeat refine AI ?_
 refine hK _ _ _ ?_;clear hK K;refine aF (b:=!c) rfl (fun hb=>?_) (fun hb=>?_)
 ·
  refine aD fun K hK=>aC (by kernel_rfl) ?_;simp only[sR,simprocAttr];refine aB (g:=none) rfl rfl fun K' hK'=>?_;simp (maxSteps:=4000000) only[sH,↓sP,sA,tyS,simprocAttr];refine jQ (args:=[]) 0 aP4 rfl (by simp) ⟨rfl,rfl,rfl,rfl⟩ ?_;rintro u rfl;repeat refine AI ?_
  refine hK' _ _ ?_;clear hK' K';refine aB (g:=none) rfl rfl fun K' hK'=>?_;simp (maxSteps:=4000000) only[sH,↓sP,sA,tyS,simprocAttr];repeat refine AI ?_
  refine hK' _ _ ?_;clear hK' K';simp only[sE,↓reduceIte,simprocAttr];repeat refine AI ?_
  refine hK _ _ _ ?_;clear hK K;refine aJ ?_;simp (maxSteps:=4000000) only[aR,Tryz.results5,aP,aQ,aN,↓sP,sA,tyS,simprocAttr];exact mD [] (.bool true) rfl rfl (by simp) rfl
 refine aK ?_;simp (maxSteps:=4000000) only[↓sP,sA,tyS,simprocAttr];repeat refine AI ?_
 refine hK _ _ _ ?_;clear hK K;have hf:=hc (by simpa using hb);have hw:=cN2 hd hf;have hdl:(dL d.l).length<2^38:=by
  have h1:=Pl.docsL_le (X:=d.l) (c:=20) fun x hx=>(hf.2 x hx).1;have h2:=hf.1;omega
 have hll:=hf.1;clear hb hc;refine aD fun K hK=>aC (by kernel_rfl) ?_;simp only[sR,simprocAttr];refine aB (g:=none) rfl rfl fun K' hK'=>?_;simp (maxSteps:=4000000) only[sH,↓sP,sA,tyS,simprocAttr];repeat refine AI ?_
 refine hK' _ _ ?_;clear hK' K';refine aB (g:=none) rfl rfl fun K' hK'=>?_;simp (maxSteps:=4000000) only[sH,↓sP,sA,tyS,simprocAttr];refine eR (args:=[_]) 0 (xI d hw) rfl (by simp) ⟨rfl,rfl,rfl,rfl⟩ ?_;rintro u v ⟨rfl,rfl⟩;repeat refine AI ?_
 refine hK' _ _ ?_;clear hK' K';iterate 5
  (refine aB (g:=none) rfl rfl fun K' hK'=>?_;simp only[sH,↓sP,sA,tyS,simprocAttr];(repeat refine AI ?_);refine hK' _ _ ?_;clear hK' K')
 simp only[sE,↓reduceIte,simprocAttr];repeat refine AI ?_
 refine hK _ _ _ ?_;clear hK K;refine aD fun K hK=>aC (by kernel_rfl) ?_;simp only[sR,simprocAttr];refine aB (g:=none) rfl rfl fun K' hK'=>?_;simp (maxSteps:=4000000) only[sH,↓sP,sA,tyS,simprocAttr];repeat refine AI ?_
 refine hK' _ _ ?_;clear hK' K';refine aB (g:=none) rfl rfl fun K' hK'=>?_;simp (maxSteps:=4000000) only[sH,↓sP,sA,tyS,simprocAttr];refine cM (args:=[_]) (bJ4 d hw) ⟨rfl,rfl,rfl,rfl⟩ ?_;rintro u v ⟨rfl,rfl⟩;repeat refine AI ?_
 refine hK' _ _ ?_;clear hK' K';iterate 5
  (refine aB (g:=none) rfl rfl fun K' hK'=>?_;simp only[sH,↓sP,sA,tyS,simprocAttr];(repeat refine AI ?_);refine hK' _ _ ?_;clear hK' K')
 simp only[sE,↓reduceIte,simprocAttr];repeat refine AI ?_
 refine hK _ _ _ ?_;clear hK K;refine aD fun K hK=>cV mixed [(0,[],[]),(1,[],[]),(2,[],[]),(3,[],[]),(4,[],[]),(5,[],[]),(6,[],[]),(7,[],[]),(8,[],[]),(9,[],[]),(10,[],[]),(11,[],[]),(13,[],[]),(12,[],[13]),(14,[],[]),(15,[],[]),(16,[],[]),(17,[],[]),(18,[],[]),(19,[],[]),(20,[],[])] [0,0,3,7,15,31,15,79,255,511,1023,2047,4095,2047,16383,32767,65535,131071,262143,524287,1048575] (by kernel_rfl) (by kernel_rfl) (by kernel_rfl) (by kernel_rfl) rfl (by kernel_rfl) ?_;iterate 4
  (refine bF (g:=none) rfl rfl fun K' hK'=>?_;simp only[sH,↓sP,sA,tyS,simprocAttr,beq_self_eq_true,bytesC_map,bN];(repeat refine AI ?_);refine hK' _ _ ?_;clear hK' K')
 iterate 5
  (refine bF (g:=some (24,true)) rfl rfl fun K' hK'=>?_;simp only[sH,↓sP,sA,tyS,simprocAttr,beq_self_eq_true,bytesC_map,bN];(repeat refine AI ?_);refine hK' _ _ ?_;clear hK' K')
 iterate 2
  (refine bF (g:=none) rfl rfl fun K' hK'=>?_;simp only[sH,↓sP,sA,tyS,simprocAttr,beq_self_eq_true,bytesC_map,bN];(repeat refine AI ?_);refine hK' _ _ ?_;clear hK' K')
 iterate 2
  (refine bF (g:=some (31,true)) rfl rfl fun K' hK'=>?_;simp only[sH,↓sP,sA,tyS,simprocAttr,beq_self_eq_true,bytesC_map,bN];(repeat refine AI ?_);refine hK' _ _ ?_;clear hK' K')
 refine bF (g:=some (31,true)) rfl rfl fun K' hK'=>?_;simp (maxSteps:=4000000) only[sH,↓sP,sA,tyS,simprocAttr,beq_self_eq_true,bytesC_map,bN];refine aU (args:=[_]) (bB2 d (by omega) hdl) ⟨rfl,rfl,rfl,rfl⟩ ?_;rintro u ⟨A,rfl,hA⟩;repeat refine AI ?_
 refine hK' _ _ ?_;clear hK' K';refine bF (g:=some (31,true)) rfl rfl fun K' hK'=>?_;simp (maxSteps:=4000000) only[sH,↓sP,sA,tyS,simprocAttr,beq_self_eq_true,bytesC_map,bN];refine aU (args:=[_]) (bW2 d (by omega) hdl) ⟨rfl,rfl,rfl,rfl⟩ ?_;rintro u ⟨B,rfl,hB⟩;obtain rfl:B=A:=bA2 (by rw[hA,hB]);have hBl:B.length<2^40:=by
  have h1:=bW3 d.l;rw[←hB,eK]at h1;omega
 repeat refine AI ?_
 refine hK' _ _ ?_;clear hK' K';refine bF (g:=some (31,true)) rfl rfl fun K' hK'=>?_;simp (maxSteps:=4000000) only[sH,↓sP,sA,tyS,simprocAttr,beq_self_eq_true,bytesC_map,bN];refine aU (args:=[_,_]) (bT0 B B hBl) ⟨rfl,rfl,rfl,rfl⟩ ?_;rintro u rfl;rw[beq_self_eq_true];repeat refine AI ?_
 refine hK' _ _ ?_;clear hK' K';iterate 2
  (refine bF (g:=none) rfl rfl fun K' hK'=>?_;simp only[sH,↓sP,sA,tyS,simprocAttr,beq_self_eq_true,bytesC_map,bN];(repeat refine AI ?_);refine hK' _ _ ?_;clear hK' K')
 refine bF (g:=some (38,true)) rfl rfl fun K' hK'=>?_;simp (maxSteps:=4000000) only[sH,↓sP,sA,tyS,simprocAttr,beq_self_eq_true,bytesC_map,bN];refine jQ (args:=[]) 0 aP4 rfl (by simp) ⟨rfl,rfl,rfl,rfl⟩ ?_;rintro u rfl;repeat refine AI ?_
 refine hK' _ _ ?_;clear hK' K';iterate 2
  (refine bF (g:=none) rfl rfl fun K' hK'=>?_;simp only[sH,↓sP,sA,tyS,simprocAttr,beq_self_eq_true,bytesC_map,bN];(repeat refine AI ?_);refine hK' _ _ ?_;clear hK' K')
 simp only[sE,↓reduceIte,simprocAttr];repeat refine AI ?_
 refine hK _ _ _ ?_;clear hK K;refine aJ ?_;simp (maxSteps:=4000000) only[aR,Tryz.results5,aP,aQ,aN,↓sP,sA,tyS,simprocAttr];exact mD [] (.bool true) rfl rfl (by simp) rfl
theorem iV {α:Type}{f:α→CV}{Q:α→Prop}: ∀(l:List CV),(∀x∈l,∃y,x=f y∧Q y)→ ∃m:List α,l=m.map f∧ ∀y∈m,Q y
 |[],_=>⟨[],rfl,by simp⟩
 |x::l,h=>by
  obtain⟨y,rfl,hy⟩:=h x (by simp);obtain⟨m,rfl,hm⟩:=iV l (fun x hx=>h x (by simp[hx]));exact⟨y::m,rfl,fun z hz=>by rcases List.mem_cons.1 hz with rfl|hz;exact hy;exact hm z hz⟩
theorem bW4 {n:Int}(h:(Lit.int .i64 n).wf=true):I64 n:=by
 simpa[Lit.wf,IntKind.min,IntKind.max,IntKind.signed,IntKind.bits]using h
variable {c:CV}
theorem cD4 (h:HasTy Tryz.prog 5 c): ∃b:UInt8,c= .int .u8 b.toNat∧True:=by
 obtain⟨n,rfl,hw⟩:=h.of_int Tryz.underlying5;have hb:0≤n∧n≤255:=by simpa[Lit.wf,IntKind.min,IntKind.max,IntKind.signed,IntKind.bits]using hw
 refine⟨UInt8.ofNat n.toNat,?_,trivial⟩;congr 1;have:(UInt8.ofNat n.toNat).toNat=n.toNat:=by rw[UInt8.toNat_ofNat'];exact Nat.mod_eq_of_lt (by omega)
 rw[this];omega
theorem aG5 (h:HasTy Tryz.prog 44 c): ∃d:Dig,c=dg d:=by
 obtain⟨l,rfl,hl,hn⟩:=h.of_arr Tryz.underlying44;obtain⟨m,rfl,_⟩:=iV (f:=fun b:UInt8=>CV.int .u8 b.toNat) (Q:=fun _=>True) l (fun x hx=>cD4 (hl x hx));exact⟨⟨m,by simpa using hn⟩,rfl⟩
theorem cD5 (h:HasTy Tryz.prog 39 c): ∃l:List Dig,c= .slc (l.map dg)∧l.length≤maxLen:=by
 obtain⟨l,rfl,hl,hn⟩:=h.of_slc Tryz.underlying39;obtain⟨m,rfl,_⟩:=iV (f:=dg) (Q:=fun _=>True) l (fun x hx=>by obtain⟨d,rfl⟩:=aG5 (hl x hx);exact⟨d,rfl,trivial⟩);exact⟨m,rfl,by simpa using hn⟩
theorem cD6 (h:HasTy Tryz.prog 22 c): ∃L:List Int,c= .slc (L.map (.int .i64))∧(∀n∈L,I64 n)∧L.length≤maxLen:=by
 obtain⟨l,rfl,hl,hn⟩:=h.of_slc Tryz.underlying22;obtain⟨m,rfl,hm⟩:=iV (f:=CV.int .i64) (Q:=I64) l (fun x hx=>by obtain⟨n,rfl,hw⟩:=(hl x hx).of_int Tryz.underlying3;exact⟨n,rfl,bW4 hw⟩);exact⟨m,rfl,hm,by simpa using hn⟩
theorem cN3 (h:HasTy Tryz.prog 41 c): ∃x:Ln,c=x.cv∧I64 x.k∧I64 x.n∧ ∀n∈x.f,I64 n:=by
 obtain⟨l,rfl,hn,hl⟩:=h.of_struct Tryz.underlying41
 match l,hn,hl with
 |[a,b,c,d],_,hl=>
  obtain⟨k,rfl,h1⟩:=(hl 0 _ a rfl rfl).of_int Tryz.underlying3;obtain⟨n,rfl,h2⟩:=(hl 1 _ b rfl rfl).of_int Tryz.underlying3;obtain⟨D,rfl,_⟩:=cD5 (hl 2 _ c rfl rfl);obtain⟨F,rfl,h3,_⟩:=cD6 (hl 3 _ d rfl rfl);exact⟨⟨k,n,D,F⟩,rfl,bW4 h1,bW4 h2,h3⟩
theorem cN4 (h:HasTy Tryz.prog 50 c): ∃d:Dv,c=d.cv∧DvT d:=by
 obtain⟨l,rfl,hn,hl⟩:=h.of_struct Tryz.underlying50
 match l,hn,hl with
 |[a,b,c,d,e,f],_,hl=>
  obtain⟨la,rfl,na,ha⟩:=(hl 0 _ a rfl rfl).of_struct Tryz.underlying46;obtain⟨t,rfl,h1⟩:=(hl 1 _ b rfl rfl).of_int Tryz.underlying2;obtain⟨p,rfl⟩:=aG5 (hl 2 _ c rfl rfl);obtain⟨r,rfl,h2⟩:=(hl 3 _ d rfl rfl).of_int Tryz.underlying3;obtain⟨le,rfl,ne,he⟩:=(hl 4 _ e rfl rfl).of_struct Tryz.underlying48;obtain⟨ll,rfl,h3,n3⟩:=(hl 5 _ f rfl rfl).of_slc Tryz.underlying30;obtain⟨L,rfl,hL⟩:=iV (f:=Ln.cv) (Q:=fun x=>I64 x.k∧I64 x.n∧ ∀n∈x.f,I64 n) ll (fun x hx=>cN3 (h3 x hx))
  match la,na,ha,le,ne,he with
  |[x,y,z],_,ha,[u,v,w],_,he=>
   obtain⟨x,rfl,_⟩:=(ha 0 _ x rfl rfl).of_str Tryz.underlying9;obtain⟨y,rfl,_⟩:=(ha 1 _ y rfl rfl).of_str Tryz.underlying9;obtain⟨z,rfl⟩:=aG5 (ha 2 _ z rfl rfl);obtain⟨u,rfl⟩:=aG5 (he 0 _ u rfl rfl);obtain⟨v,rfl,_⟩:=(he 1 _ v rfl rfl).of_str Tryz.underlying9;obtain⟨w,rfl,_⟩:=(he 2 _ w rfl rfl).of_str Tryz.underlying9;refine⟨⟨⟨x,y,z⟩,t,p,r,⟨u,v,w⟩,L⟩,rfl,bW4 h1,bW4 h2,hL,?_⟩;have h4:L.length≤maxLen:=by simpa using n3
   unfold maxLen at h4;show L.length<2^63;omega
theorem own :ownKnob Tryz.prog.godebug=none:=by kernel_rfl
theorem cN5 :Kids Tryz.prog (· <Tryz.prog.types.size):=kids_rows (by kernel_rfl) (by kernel_rfl)
theorem aV4 : ∀t e,t<Tryz.prog.types.size→Tryz.prog.underlying t=some (.slice e)→0<Tryz.prog.cellsOf e:=slices_full_of Tryz.prog (by kernel_rfl)
set_option maxRecDepth 100000
theorem yK {W:World}(h:laidMetH Tryz.prog Rows.derivationEncodeRow.laid W):Lib.TabIs Tryz.prog W "internal/strconv.uint64pow10" .u64 Lib.pow10Tab:=by
  rw[MakeChecks.laidMetH_plain _ _ _ (by kernel_rfl)]at h;have h2:=laidMet.filter (fun x=>x.1== "internal/strconv.uint64pow10") h;have e:(Rows.derivationEncodeRow.laid.filter fun x=>x.1== "internal/strconv.uint64pow10")=[("internal/strconv.uint64pow10",Lib.tabData .u64 Lib.pow10Tab)]:=by kernel_rfl
  rw[e]at h2;exact Lib.tabIs_of_head aF1 (by kernel_rfl) Tryz.underlying199 Tryz.underlying135 (by kernel_rfl) (by kernel_rfl) h2
theorem kG (H:Type)(enc:TypeId×Value→H)(W:World)(args:Array Value)(ds gs:List (DataW H))(before:List MemPlace)
    (hL:laidMetH Tryz.prog Rows.derivationEncodeRow.laid W)
    (hval: ∀(j:Nat) t v,Tryz.f5.params[j]? =some t→args[j]? =some v→Value.okWide Tryz.prog W .any 0 t v)
    (hW:DataW.Whole enc Tryz.prog Tryz.f5.params.toList Rows.derivationEncodeSpec.vars false W args.toList ds gs before):
    Calls Tryz.prog 5 args W fun e W'=> ∃v,e= .returned v∧Rows.derivationEncodeSpec.post enc Tryz.prog Tryz.f5 false true false false W args v W':=by
  refine bD8 (mm:=9) (tb:=4) (tabs:=tabs) (by kernel_rfl) cN5 aV4 rfl (by kernel_rfl) Tryz.underlying4 ?_ ?_ ?_ ?_ (fun j t v h1 h2=>?_) hW
  · rw[Tryz.params5]
    intro H ds h
    match ds,h with
    |[c0],_=>exact⟨rfl,rfl,rfl⟩
  · rw[Tryz.params5]
    intro t ht;simp only[List.mem_cons,List.not_mem_nil,or_false]at ht;rcases ht with rfl
    · exact⟨by kernel_rfl,of_decide_eq_true (by kernel_rfl)⟩
  · rw[Tryz.params5]
    intro cs hn hty
    match cs,hn,hty with
    |[c0],_,hty=>
      obtain⟨d,rfl,hd⟩:=cN4 (hty 0 _ c0 rfl rfl);exact aV3 d hd
  · intro x hx
    simp only[tabs,List.mem_cons,List.not_mem_nil,or_false]at hx;rcases hx with rfl
    · exact yD aF1 (yK hL)
  · exact hval j t v h1 h2
open Go.ChangeShapes Go.WideShapes Go.ChangeAt Go.RowKit in
set_option maxRecDepth 100000 in
theorem lT (os:Os)(started:os.Started)(H:Type)(enc:TypeId×Value→H):
    ReturnsInHanded {} Tryz.checked os 5 .any (fun w args=>(Rows.derivationEncodeSpec.pre enc Tryz.prog Tryz.f5 [] false w args∧laidMetH Tryz.prog Rows.derivationEncodeRow.laid w)∧sizedMet enc Tryz.prog Tryz.f5 (OpenSpec.ofChange Rows.derivationEncodeSpec) false w args)
      (Rows.derivationEncodeSpec.post enc Tryz.prog Tryz.f5 false true false false):=by
  refine returnsInHanded_of_change_and (C:=Tryz.checked) (X:=fun w _=>laidMetH Tryz.prog Rows.derivationEncodeRow.laid w) (fun _ _ _ hh h=>h.of_heap hh) own started (by kernel_rfl) Tryz.func5
    (ChangeSpec.witness_shaped (enc:=enc) (C:=Tryz.checked) (os:=os) (X:=fun w _=>laidMetH Tryz.prog Rows.derivationEncodeRow.laid w) false (World.laidAll Tryz.prog os Rows.derivationEncodeRow.laid) #[.agg #[.string ⟨#[]⟩,.string ⟨#[]⟩,.int .u8 0,.int .u8 0,.int .u8 0,.int .u8 0,.int .u8 0,.int .u8 0,.int .u8 0,.int .u8 0,.int .u8 0,.int .u8 0,.int .u8 0,.int .u8 0,.int .u8 0,.int .u8 0,.int .u8 0,.int .u8 0,.int .u8 0,.int .u8 0,.int .u8 0,.int .u8 0,.int .u8 0,.int .u8 0,.int .u8 0,.int .u8 0,.int .u8 0,.int .u8 0,.int .u8 0,.int .u8 0,.int .u8 0,.int .u8 0,.int .u8 0,.int .u8 0,.int .i64 0,.int .u8 0,.int .u8 0,.int .u8 0,.int .u8 0,.int .u8 0,.int .u8 0,.int .u8 0,.int .u8 0,.int .u8 0,.int .u8 0,.int .u8 0,.int .u8 0,.int .u8 0,.int .u8 0,.int .u8 0,.int .u8 0,.int .u8 0,.int .u8 0,.int .u8 0,.int .u8 0,.int .u8 0,.int .u8 0,.int .u8 0,.int .u8 0,.int .u8 0,.int .u8 0,.int .u8 0,.int .u8 0,.int .u8 0,.int .u8 0,.int .u8 0,.int .u8 0,.int .i64 0,.int .u8 0,.int .u8 0,.int .u8 0,.int .u8 0,.int .u8 0,.int .u8 0,.int .u8 0,.int .u8 0,.int .u8 0,.int .u8 0,.int .u8 0,.int .u8 0,.int .u8 0,.int .u8 0,.int .u8 0,.int .u8 0,.int .u8 0,.int .u8 0,.int .u8 0,.int .u8 0,.int .u8 0,.int .u8 0,.int .u8 0,.int .u8 0,.int .u8 0,.int .u8 0,.int .u8 0,.int .u8 0,.int .u8 0,.int .u8 0,.int .u8 0,.int .u8 0,.string ⟨#[]⟩,.string ⟨#[]⟩,.slice none 0 0]] 8 (World.laidAll_os _ _ _)
      (World.shaped_of_ZipB (by kernel_rfl) (by kernel_rfl)) (by kernel_rfl) (by kernel_rfl) (by kernel_rfl)
      (by rw[MakeChecks.laidMetH_plain _ _ _ (by kernel_rfl)];exact laidMet_laidAll _ (by kernel_rfl) (by kernel_rfl))) ?_
  intro W base args ds gs before hval hW _ _ hL _;exact kG H enc W args ds gs before hL (fun j t v h1 h2=>(hval j t v h1 h2)) hW
theorem nV :Rows.DerivationEncodeSaid:=
  OpenClaim.holds_of_wide 5 Tryz.f5 rfl rfl rfl rfl rfl rfl rfl ⟨rfl,rfl,rfl,rfl,rfl⟩ rfl rfl rfl rfl rfl (by kernel_rfl) Tryz.func5 (by kernel_rfl)
    (of_decide_eq_true (by kernel_rfl)) (by unfold Func.isWrapper;first|(rw[if_pos (by decide+kernel)];kernel_rfl)|(rw[if_neg (by decide+kernel)];exact⟨rfl,rfl⟩))
    (fun os started H enc _=>lT os started H enc)
theorem derivationEncode_said :Rows.DerivationEncodeCardSaid:=
  Claim7.holds_tied_plain_at .later [] [.data,.data,.data,.data,.pinned] true (true,"21008691179fbc5e685a549e14076cf73832ee6f24894afe5decf201da899196") false nV (fun _ h=>by cases h) (by kernel_rfl) (fun _ h=>by cases h) derivationEncode_row_tie rfl ⟨rfl,rfl⟩ (by kernel_rfl) rfl
    (fun f fn hf hfn=>by
      obtain rfl:f=5:=Option.some.inj ((show Tryz.prog.funcNamed "admission/admissionlaw31.DerivationEncode" =some 5 by kernel_rfl).symm.trans hf)|>.symm;obtain rfl:fn=Tryz.f5:=(Option.some.inj (Tryz.func5.symm.trans hfn)).symm;exact⟨by kernel_rfl,fun j t ht=>by
        rw[Tryz.params5]at ht;have hm:t∈[50]:=by simpa using Array.mem_of_getElem? ht
        have hall:([50].all fun u=>!Tryz.prog.wantsStandIn u)=true:=by kernel_rfl
        exact(show Tryz.prog.wantsStandIn t=false by simpa using List.all_eq_true.1 hall t hm)⟩)
    (by kernel_rfl)
#print axioms derivationEncode_said
end Go.Proofs.YthedbjfipmkpiaaGreatDoor
