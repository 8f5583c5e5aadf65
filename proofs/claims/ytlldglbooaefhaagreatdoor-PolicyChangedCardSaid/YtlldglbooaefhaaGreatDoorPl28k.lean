/- Plain Lean: requirements, nodes and lists of nodes, as the two codes ask for them. By an AI agent. -/
import Derived.Test.YtlldglbooaefhaaGreatDoorHzU1
import Derived.Test.YtlldglbooaefhaaGreatDoorPl03d
import Derived.Test.YtlldglbooaefhaaGreatDoorHlTlaw
import Derived.Test.YtlldglbooaefhaaGreatDoorPl11v
set_option linter.unusedSimpArgs false
set_option linter.unusedVariables false
set_option linter.defProp false
namespace Go.Proofs.YtlldglbooaefhaaGreatDoor
open Go Go.Hl Go.Pl
set_option maxRecDepth 10000
set_option maxHeartbeats 16000000
theorem bP6 (l:aH)(c:UInt8)(hl:l.length<2^40):aD6 Tryz.prog 135 [.str l,.str [c]] (fun u v x=>u= .str (qZ c l)∧v= .str (wV c l)∧x= .bool (uG c l)):=by
 refine FW Tryz.func135 ?_;refine R0 ?_;refine aC fun K hK=>?_;refine aC fun K hK=>Rg ?_;iterate 2 refine S0 ?_
 refine HS rfl rfl fun K' hK'=>T5 ?_;refine C2 (aS9 l c) ?_;rintro u rfl;refine AX (hK' _ _ ?_);clear hK' K';refine S0 ?_;refine T2 (hK _ _ _ ?_);clear hK K;refine R0 ?_;refine aG (b:=decide ((0:Int)≤dW l c)) rfl (fun hb=>?_) (fun hb=>?_)
 ·
  have hn: ¬dW l c<0:=by simp at hb;omega
  obtain⟨i,hi,hil,hsp⟩:=eL hn;obtain⟨_,c1,c2,c3⟩:=rA hi;have htd:List.take (l.length-(i+1)) (List.drop (i+1) l)=List.drop (i+1) l:=List.take_of_length_le (by simp);have hil1:i+1≤l.length:=hil;have hil0:i≤l.length:=by omega
  rw[hi];refine aC fun K hK=>QR ?_;have F:=aI @Int.natCast_nonneg (aI @Int.ofNat_le (aI @Int.sub_zero (aI @Nat.sub_zero (aI @List.drop_zero.{0} (aI hil0 (aI hil1 (aI htd (show IntKind.i64.wrap ((i:Int)+1)=((i+1:Nat):Int)from by rw[IntWalk.i64_in _ (by omega)];rfl))))))));iterate 12 refine SF ?_
  refine T2 (hK _ _ _ ?_);clear hK K;refine aF (RT Tryz.results135 ?_);exact jO [] (.str (l.take i)) (.str (l.drop (i+1))) (.bool true) rfl ⟨by rw[c1],by rw[c2],by rw[c3]⟩
 have hn:dW l c<0:=by simp at hb;omega
 obtain⟨c1,c2,c3⟩:=rB hn;refine aK ?_;refine T0 (hK _ _ _ ?_);clear hK K;refine aC fun K hK=>Rg ?_;iterate 4 refine S0 ?_
 refine T2 (hK _ _ _ ?_);clear hK K;refine aF (RT Tryz.results135 ?_);exact jO [] (.str l) (.str []) (.bool false) rfl ⟨by rw[c1],by rw[c2],by rw[c3]⟩
theorem bY2 (l:aH)(c:UInt8)(hl:l.length<2^40):aD6 Tryz.prog 113 [.str l,.str [c]] (fun u v x=>u= .str (qZ c l)∧v= .str (wV c l)∧x= .bool (uG c l)):=by
 refine FW Tryz.func113 ?_;refine R0 ?_;refine aC fun K hK=>Rg ?_;iterate 2 refine S0 ?_
 refine HS rfl rfl fun K' hK'=>T5 ?_;refine pL (args:=[_,_]) (bP6 l c hl) ⟨rfl,rfl,rfl,rfl⟩ ?_;rintro u v x ⟨rfl,rfl,rfl⟩;refine AX (hK' _ _ ?_);clear hK' K';iterate 6 refine S0 ?_
 refine T2 (hK _ _ _ ?_);clear hK K;refine aF (RT Tryz.results113 ?_);exact jO [] _ _ _ rfl ⟨rfl,rfl,rfl⟩
theorem aZ2 (p:aH):cA Tryz.prog 58 [.str p] (fun v=>v= .bool (eP p).isSome):=by
 refine FW Tryz.func58 ?_;refine R0 ?_;refine aC fun K hK=>Rg ?_;refine S0 ?_;refine HS rfl rfl fun K' hK'=>T5 ?_;refine D1 (aM7 p) ?_;rintro u v ⟨rfl,rfl⟩;refine AX (hK' _ _ ?_);clear hK' K';iterate 5 refine S0 ?_
 refine T2 (hK _ _ _ ?_);clear hK K;refine R0 ?_;refine aF (RT Tryz.results58 ?_);exact aJ [] _ rfl rfl
theorem aM9 (p:aH):cA Tryz.prog 60 [.str p] (fun v=>v= .bool (eP p).isSome):=by
 refine FW Tryz.func60 ?_;refine R0 ?_;refine aC fun K hK=>Rg ?_;refine S0 ?_;refine HS rfl rfl fun K' hK'=>T5 ?_;refine D1 (bY1 p) ?_;rintro u v ⟨rfl,rfl⟩;refine AX (hK' _ _ ?_);clear hK' K';iterate 5 refine S0 ?_
 refine T2 (hK _ _ _ ?_);clear hK K;refine R0 ?_;refine aF (RT Tryz.results60 ?_);exact aJ [] _ rfl rfl
theorem aZ3 (p:aH):cA Tryz.prog 96 [.str p] (fun v=>v= .bool (kI p)):=by
 refine FW Tryz.func96 ?_;refine R0 ?_;refine aC fun K hK=>?_;refine aC fun K hK=>Rg ?_;iterate 4 refine S0 ?_
 refine aE 7 rfl (fun h1_7=>?_) (fun h1_7=>?_)
 ·
  have F:=h1_7;iterate 9 refine SF ?_
  refine T2 (hK _ _ _ ?_);clear hK K;refine CT rfl ?_;refine R0 ?_;refine aF (RT Tryz.results96 ?_);exact aJ [] (.bool false) rfl (by rw[aA0 (by simp at h1_7;omega)])
 have F:=h1_7;iterate 5 refine SF ?_
 refine aE 11 rfl (fun h1_11=>?_) (fun h1_11=>?_)
 ·
  clear F;have F:=aI h1_7 h1_11;iterate 4 refine SF ?_
  refine T2 (hK _ _ _ ?_);clear hK K;refine CT rfl ?_;refine R0 ?_;refine aF (RT Tryz.results96 ?_);exact aJ [] (.bool false) rfl (by rw[aA0 (by simp at h1_11;omega)])
 clear F;have F:=aI h1_7 h1_11;refine SF ?_;refine bE (g:=some (13,false)) rfl rfl fun K' hK'=>T6 ?_;refine C2 (qS p 0) ?_;rintro u rfl;refine AX (hK' _ _ ?_);clear hK' K';iterate 2 refine SF ?_
 refine aE 16 rfl (fun h1_16=>?_) (fun h1_16=>?_)
 · simp only[h1_16];refine T2 (hK _ _ _ ?_);clear hK K;refine CT rfl ?_;refine R0 ?_;refine aF (RT Tryz.results96 ?_);exact aJ [] (.bool false) rfl (by rw[aT8 (aM6 (by simpa using h1_16))])
 simp only[h1_16];refine T2 (hK _ _ _ ?_);clear hK K;refine CF rfl ?_;refine aK ?_;refine T0 (hK _ _ _ ?_);clear hK K;refine aC fun K hK=>?_;have hl:p.length≤200:=by simp at h1_11;omega
 have hpv:=bP5 (p:=p) (by simp at h1_7;omega) hl (tV (by simpa using h1_16));clear h1_7 h1_11 h1_16;refine R0 ?_;refine aM ?_;refine bI (α:={y:Bool×aH//PathSt p y.1 y.2}) (fun y=>(fin [(0,.c (.str y.1.2)),(3,.c (.bool y.1.1))],fob [])) 100 (fun y=>if y.1.1 then y.1.2.length+1 else 0) ⟨(true,p),hl,by simp⟩ (fF) ?_;rintro⟨⟨m,s⟩,hst⟩;simp only at hst;have hs:=hst.1;refine aC fun K hK=>?_;refine R0 ?_;refine aG (b:=m) rfl (fun hb=>?_) (fun hb=>?_)
 ·
  subst hb;refine aK ?_;refine T0 (hK _ _ _ ?_);clear hK K;refine aM ?_;refine R0 ?_;refine aC fun K hK=>Rg ?_;refine S0 ?_;refine HS rfl rfl fun K' hK'=>T5 ?_;refine pL (args:=[_,_]) (bY2 s 47 (by omega)) ⟨rfl,rfl,rfl,rfl⟩ ?_;rintro u v x ⟨rfl,rfl,rfl⟩;refine AX (hK' _ _ ?_);clear hK' K';iterate 7 refine S0 ?_
  refine T2 (hK _ _ _ ?_);clear hK K;refine aC fun K hK=>Rg ?_;iterate 3 refine S0 ?_
  refine aE 26 rfl (fun h7_26=>?_) (fun h7_26=>?_)
  ·
   clear F;have F:=h7_26;iterate 7 refine SF ?_
   refine T2 (hK _ _ _ ?_);clear hK K;refine CT rfl ?_;refine R0 ?_;refine aF (RT Tryz.results96 ?_);have hg:kH (qZ 47 s)=false:=wW (.inl (eq_of_beq h7_26));exact aJ [] (.bool false) rfl (by rw[hpv,hst.bad hg])
  clear F;have F:=h7_26;iterate 4 refine SF ?_
  refine aE 29 rfl (fun h7_29=>?_) (fun h7_29=>?_)
  ·
   clear F;have F:=aI h7_26 h7_29;iterate 3 refine SF ?_
   refine T2 (hK _ _ _ ?_);clear hK K;refine CT rfl ?_;refine R0 ?_;refine aF (RT Tryz.results96 ?_);have hg:kH (qZ 47 s)=false:=wW (.inr (.inl (eq_of_beq h7_29)));exact aJ [] (.bool false) rfl (by rw[hpv,hst.bad hg])
  clear F;have F:=aI h7_26 h7_29;iterate 3 refine SF ?_
  refine aE 33 rfl (fun h7_33=>?_) (fun h7_33=>?_)
  · simp only[h7_33];refine T2 (hK _ _ _ ?_);clear hK K;refine CT rfl ?_;refine R0 ?_;refine aF (RT Tryz.results96 ?_);have hg:kH (qZ 47 s)=false:=wW (.inr (.inr (eq_of_beq h7_33)));exact aJ [] (.bool false) rfl (by rw[hpv,hst.bad hg])
  simp only[h7_33];refine T2 (hK _ _ _ ?_);clear hK K;refine CF rfl ?_;refine aK (T3 ?_);have hg:kH (qZ 47 s)=true:=bF6 (by simpa using h7_26) (by simpa using h7_29) (by simpa using h7_33);refine⟨⟨(uG 47 s,wV 47 s),hst.step hg⟩,fF,?_⟩;show(if uG 47 s=true then(wV 47 s).length+1 else 0)<if true=true then s.length+1 else 0
  rw[if_pos rfl];split
  · rename_i h;have:=aM8 h;omega
  omega
 subst hb;refine bD (T3 ?_);clear hK K;refine AX (hK _ _ _ ?_);clear hK K;refine R0 ?_;refine aF (RT Tryz.results96 ?_);exact aJ [] (.bool true) rfl (by rw[hpv,hst.2];rfl)
theorem cM9 :lst []=cQ:=by funext j;simp[lst,cQ]
theorem bY3 (x:Pt)(c:UInt8):cI1 Tryz.prog 114 140 x.cv [u8 c] (fun v=>v= .bool (c==x.c)):=by
 show HFn _ _ [.c (u8 c),.ptr 0 0] 1 _ _;refine bT (args:=[.c (u8 c),.ptr 0 0]) Tryz.func114 rfl (by kernel_rfl) (yU _ _ [u8 c]) (Nat.le_of_ble_eq_true rfl) ?_;refine R0 ?_;refine aC fun K hK=>Rg ?_;have F:=aI @Pt.get_c @bE5;iterate 5 refine SF ?_
 refine T2 (hK _ _ _ ?_);clear hK K;refine aF (RT Tryz.results114 ?_);refine aR5 [] (.bool (c==x.c)) x.cv rfl rfl (by simp[HV.close,HV.norm,HV.toC,Pt.denil]) (by simp) rfl rfl
theorem bF7 (x:Pt)(hk:x.k=0):HGe Tryz.prog 97 [.c x.cv] [] (fun r os=>r= .clo 114 [.ptr 0 0]∧os=[.box 140 (.c x.cv)]):=by
 show HFn _ _ [.c x.cv] 0 (lst []) _;rw[cM9];refine bT (args:=[.c x.cv]) Tryz.func97 rfl (by kernel_rfl) (jF [x.cv]) (Nat.le_of_ble_eq_true rfl) ?_;have hd0:((x.k:Int)==0)=true:=by rw[hk];rfl
 have F:=aI @Pt.cells (aI @Pt.isAgg @Pt.getAll);refine RF ?_;refine aC fun K hK=>?_;have F:=@Pt.get_k;refine RF ?_;refine aM ?_;have F:=hd0;refine RF ?_;refine CT rfl ?_;refine R0 ?_;refine aF (RT Tryz.results97 ?_);refine eD [] [0] (.clo 114 [.ptr 0 0]) [.box 140 (.c x.cv)] rfl ?_ ?_ rfl (by simp) (by simp) (by simp) ⟨rfl,rfl⟩
 · simp[HV.men,HV.menL]
 refine⟨⟨by simp[HO.men,HV.men],by simp,.box 140 (.c x.cv),rfl,?_⟩,trivial⟩;simp[fB,HV.close,HV.norm,HV.toC,Pt.denil,HO.ren,HV.ren]
theorem bF8 (x:Pt)(hk:x.k=3):cA Tryz.prog 97 [x.cv] (fun v=>v= .fn 115):=by
 refine FW Tryz.func97 ?_;have hd0:((x.k:Int)==0)=false:=by rw[hk];rfl
 have hd3:((x.k:Int)==3)=true:=by rw[hk];rfl
 have F:=aI @Pt.cells (aI @Pt.isAgg @Pt.getAll);refine RF ?_;refine aC fun K hK=>?_;have F:=@Pt.get_k;refine RF ?_;refine aM ?_;have F:=hd0;refine RF ?_;refine CF rfl ?_;have F:=hd3;refine RF ?_;refine CT rfl ?_;refine R0 ?_;refine aF (RT Tryz.results97 ?_);exact aJ [] (.fn 115) rfl rfl
theorem aA1 (x:Pt)(hk:x.k=1∨x.k=2):cA Tryz.prog 97 [x.cv] (fun v=>v= .fn 116):=by
 refine FW Tryz.func97 ?_;have hd0:((x.k:Int)==0)=false:=by rcases hk with h|h<;>rw[h]<;>rfl
 have hd3:((x.k:Int)==3)=false:=by rcases hk with h|h<;>rw[h]<;>rfl
 have F:=aI @Pt.cells (aI @Pt.isAgg @Pt.getAll);refine RF ?_;refine aC fun K hK=>?_;have F:=@Pt.get_k;refine RF ?_;refine aM ?_;have F:=hd0;refine RF ?_;refine CF rfl ?_;have F:=hd3;refine RF ?_;refine CF rfl ?_;refine aK ?_;refine T0 (hK _ _ _ ?_);clear hK K;refine R0 ?_;refine aF (RT Tryz.results97 ?_);exact aJ [] (.fn 116) rfl rfl
end Go.Proofs.YtlldglbooaefhaaGreatDoor
namespace Go.Pl
open Go Go.Hl
variable {ps:List Pt}{p:aH}
theorem bF9 (h:eP p=some ps):ps.length≤200∧ ∀x∈ps,x.k≤3:=by
 unfold eP at h;split at h
 · cases h
 · rename_i hl;obtain⟨h1,h2⟩:=aX4 p.length p ps (Nat.le_refl _) h;grind
variable {s:aH}
theorem aN0 (h:eP p=none):lU p s=false:=by unfold lU;rw[h]
theorem aN1 (h:kI s=false):lU p s=false:=by grind[lU]
theorem aN2 (h:eP p=some ps)(hs:kI s=true):lU p s=mD ps s ps.length s.length:=by grind[lU]
theorem bG0 (h:kI s=true):s.length≤200:=by simp_all[kI,Bool.and_eq_true,decide_eq_true_eq]
def bZ (n:Nat)(f:Nat→Bool):List CV:=(tab n f).map bC1
theorem aW (n:Nat)(f:Nat→Bool):(bZ n f).length=n:=by simp[bZ,lZ]
variable {i n:Nat}
theorem aZ {f:Nat→Bool}(h:i<n):nth (bZ n f) i= .bool (f i):=bW5 h
theorem bG1 (n:Nat):List.replicate n (CV.bool false)=bZ n (fun _=>false):=by
 unfold bZ;rw[←bE4];simp[bC1]
theorem wX (n:Nat)(f:Nat→Bool)(i:Nat)(b:Bool):(bZ n f).set i (.bool b)=bZ n (fun j=>if j=i then b else f j):=by
 unfold bZ;rw[←bW4,List.map_set];rfl
theorem iO (n:Nat)(f:Nat→Bool):CV.denilL (bZ n f)=bZ n f:=cI (fun x=>by simp[bC1,CV.denil]) _
theorem bG2 {ps:List Pt}{s:aH}:(bZ n (fun _=>false)).set 0 (.bool true)=bZ n (fun j=>if j=0 then true else false):=wX _ _ _ _
variable {b:Bool}{k:Nat}
theorem iP (hb:b=(mD ps s k 0&&(prt ps k).long)):(bZ n (fun _=>false)).set 0 (.bool b)=bZ n (nxt ps s k 0):=by
 rw[wX,hb];congr 1;grind[bM5]
theorem gA (hb:b=mD ps s (k+1) (i+1)):(bZ n (nxt ps s k i)).set (i+1) (.bool b)=bZ n (nxt ps s k (i+1)):=by simp_all[wX,bM6]
theorem uP :bZ (s.length+1) (nxt ps s k s.length)=bZ (s.length+1) (mD ps s (k+1)):=by
 unfold bZ;rw[bW6]
theorem bP7 :bZ (s.length+1) (fun j=>if j=0 then true else false)=bZ (s.length+1) (mD ps s 0):=by
 unfold bZ;rw[bM7]
theorem bY4 (h:k<ps.length):prt ps k=ps[k]:=by simp[prt,h]
end Go.Pl
namespace Go.Proofs.YtlldglbooaefhaaGreatDoor
open Go Go.Hl Go.Pl
set_option maxRecDepth 10000
set_option maxHeartbeats 16000000
theorem dC (ps:List Pt)(s:aH)(k i:Nat):nxt ps s k i i=mD ps s (k+1) i:=by simp[nxt]
theorem aN3 (p s:aH):cA Tryz.prog 72 [.str p,.str s] (fun v=>v= .bool (lU p s)):=by
 refine FW Tryz.func72 ?_;refine R0 ?_;refine aC fun K hK=>Rg ?_;refine S0 ?_;refine HS rfl rfl fun K' hK'=>T5 ?_;refine D1 (aM7 p) ?_;rintro u v ⟨rfl,rfl⟩;refine AX (hK' _ _ ?_);clear hK' K';iterate 5 refine S0 ?_
 refine T2 (hK _ _ _ ?_);clear hK K;refine aC fun K hK=>?_;cases hpv:eP p
 ·
  refine aC fun K hK=>Rg ?_;iterate 7 refine S0 ?_ (e:=fun _ h_=>by simp only[sH,↓sP,sA,tyS,simprocAttr,Option.isSome_none,Bool.not_false];exact AX h_)
  refine T2 (hK _ _ _ ?_);clear hK K;refine CT rfl ?_;refine R0 ?_;refine aF (RT Tryz.results72 ?_);exact aJ [] (.bool false) rfl (by rw[aN0 hpv])
 by_cases hs:kI s=true
 ·
  rename_i ps;have hs200:=bG0 hs;obtain⟨hpl,hpk⟩:=bF9 hpv;have hmv:=aN2 hpv hs;clear hpv;refine aC fun K hK=>Rg ?_;iterate 4 refine S0 ?_ (e:=fun _ h_=>by simp only[sH,↓sP,sA,tyS,simprocAttr,Option.isSome_some,Bool.not_true,hs,Option.getD_some];exact AX h_)
  refine bE (g:=some (20,false)) rfl rfl fun K' hK'=>?_;simp only[sH,↓sP,sA,tyS,simprocAttr,Option.isSome_some,Bool.not_true,hs,Option.getD_some];refine C1 (aZ3 s) ?_;rintro u rfl;refine AX (hK' _ _ ?_);clear hK' K';iterate 2 refine S0 ?_ (e:=fun _ h_=>by simp only[sH,↓sP,sA,tyS,simprocAttr,Option.isSome_some,Bool.not_true,hs,Option.getD_some];exact AX h_)
  refine T2 (hK _ _ _ ?_);clear hK K;refine CF rfl ?_;refine aK ?_;refine T0 (hK _ _ _ ?_);clear hK K;have hwn:IntKind.i64.wrap ((s.length:Int)+1)=(((s.length+1:Nat)):Int):=by rw[IntWalk.i64_in _ (by omega)];rfl
  have hn0:(((s.length+1:Nat):Int)=0)=False:=by simp;omega
  have hzn:(0:Int)<((s.length+1:Nat):Int):=by omega
  have hrep:=bG1 (s.length+1);refine aC fun K hK=>Rg ?_;have F:=aI hwn (aI hn0 (aI hrep @Int.toNat_natCast));iterate 5 refine SF ?_
  refine T2 (hK _ _ _ ?_);clear hK K;refine R0 ?_ (e:=fun _ h_=>by simp only[↓sP,sA,tyS,simprocAttr,hzn,aW,aZ (Nat.succ_pos s.length),Int.toNat_zero];exact AX h_);refine aC fun K hK=>?_;refine R0 ?_;refine aM ?_;have hr0:(bZ (s.length+1) (fun _=>false)).set 0 (.bool true)=bZ (s.length+1) (mD ps s 0):=(bG2 (ps:=ps) (s:=s)).trans bP7;refine dA [72] (bF (fr2:=fin [(1,.c (.str s)),(7,.c (.slc (bZ (s.length+1) (mD ps s 0)))),(31,.c (.slc (ps.map Pt.cv))),(32,.c (.int .i64 ps.length)),(33,.c (.int .i64 0))]) (ob2:=fob []) (nx2:=90) (aL (by omega) (by simp[aS,dI,fin_at,finA_at,upd_at,fob_at,HV.close,HV.closeL,CV.denil,CV.denilL,iO,denilL_Pt,hr0,HV.men,HV.menL,HV.norm,HV.toC,HV.toCL,aW]) (by simp[aT,dJ,fob_at,upd_at,none0_at,bL,HO.close,HV.close,HV.closeL,HO.men,HV.men,HV.menL,HV.norm,HV.toC,HV.toCL])) ?_);refine bI (α:={k:Nat//k≤ps.length}) (fun k=>(fin [(1,.c (.str s)),(7,.c (.slc (bZ (s.length+1) (mD ps s k.1)))),(31,.c (.slc (ps.map Pt.cv))),(32,.c (.int .i64 ps.length)),(33,.c (.int .i64 k.1))],fob [])) 100 (fun k=>ps.length-k.1) ⟨0,by omega⟩ (fF) ?_;rintro⟨k,hk⟩;refine R0 ?_;refine aC fun K hK=>?_;refine aG (b:=decide ((k:Int)<ps.length)) rfl (fun hb=>?_) (fun hb=>?_)
  ·
   have hlt:k<ps.length:=by simpa using hb
   clear hb;have hk3:=hpk _ (List.getElem_mem hlt);have hprt:=bY4 hlt;refine aK ?_;refine T0 (hK _ _ _ ?_);clear hK K;refine aC fun K hK=>?_;refine aM ?_;refine aC fun K hK=>Rg ?_;clear F;have F:=aI @Int.natCast_nonneg (aI @Int.ofNat_lt (aI hlt (aI @List.length_map.{0,0} (aI (nM hlt) (aI @Pt.cells (aI @Pt.isAgg (aI @Pt.getAll @Pt.setAll)))))));iterate 4 refine SF ?_
   refine T2 (hK _ _ _ ?_);clear hK K;by_cases h0:ps[k].k=0
   ·
    have hlong:ps[k].long=false:=by simp[Pt.long,h0]
    refine aC fun K hK=>Rg ?_;clear F;have F:=aI @Pt.cells (aI @Pt.isAgg @Pt.getAll);refine SF ?_;refine HS rfl rfl fun K' hK'=>T6 ?_;refine eZ (largs:=[.c ps[k].cv]) [] (bF7 ps[k] h0) rfl trivial (by simp) (by simp) ⟨rfl,rfl,rfl,rfl⟩ trivial (by simp[HV.menL,HV.men]) ?_;rintro r os ⟨rfl,rfl⟩;simp only[HV.ren,HV.renL,jP,HO.ren,sub,List.length_nil,Nat.not_lt_zero,if_false,Nat.sub_zero,Nat.add_zero];refine AX (hK' _ _ ?_);clear hK' K';refine SF ?_;refine T2 (hK _ _ _ ?_);clear hK K;refine aC fun K hK=>Rg ?_;clear F;have F:=aI hwn (aI hn0 (aI hrep @Int.toNat_natCast));iterate 5 refine SF ?_
    refine T2 (hK _ _ _ ?_);clear hK K;refine aC fun K hK=>?_;have key: ∀fr ob nx,Fits 0 fr ob (fin [(1,.c (.str s)),(7,.c (.slc (bZ (s.length+1) (mD ps s k)))),(9,.ptr 112 0),(10,.clo 114 [.ptr 124 0]),(11,.own 144 (s.length+1)),(31,.c (.slc (ps.map Pt.cv))),(32,.c (.int .i64 ps.length)),(33,.c (.int .i64 k))]) (fob [(112,.box 140 (.c ps[k].cv)),(124,.box 140 (.c ps[k].cv)),(144,.row 4 1 (bZ (s.length+1) (nxt ps s k 0)))]) 250→K fr ob nx:=by
     rintro fr ob nx hf;refine hK _ _ _ (bF hf ?_);clear hf hK K;refine aC fun K hK=>?_;refine R0 ?_;refine aM ?_;refine bI (α:={i:Nat//i≤s.length}) (fun i=>(fin [(1,.c (.str s)),(7,.c (.slc (bZ (s.length+1) (mD ps s k)))),(9,.ptr 112 0),(10,.clo 114 [.ptr 124 0]),(11,.own 144 (s.length+1)),(31,.c (.slc (ps.map Pt.cv))),(32,.c (.int .i64 ps.length)),(33,.c (.int .i64 k)),(53,.c (.int .i64 s.length)),(54,.c (.int .i64 i.1))],fob [(112,.box 140 (.c ps[k].cv)),(124,.box 140 (.c ps[k].cv)),(144,.row 4 1 (bZ (s.length+1) (nxt ps s k i.1)))])) 300 (fun i=>s.length-i.1) ⟨0,by omega⟩ (fF) ?_;rintro⟨i,hi⟩;refine R0 ?_;refine aC fun K hK=>?_;refine aG (b:=decide ((i:Int)<s.length)) rfl (fun hb=>?_) (fun hb=>?_)
     ·
      have hil:i<s.length:=by simpa using hb
      clear hb;have hgd:s.getD i 0=s[i]:=by simp[hil]
      have hiN:i+1<s.length+1:=by omega
      have hiN0:i<s.length+1:=by omega
      have hw1:IntKind.i64.wrap ((i:Int)+1)=((i+1:Nat):Int):=by rw[IntWalk.i64_in _ (by omega)];rfl
      refine aK ?_;refine T0 (hK _ _ _ ?_);clear hK K;refine aC fun K hK=>?_;refine aM ?_;refine R0 ?_;refine aM ?_;refine aC fun K hK=>Rg ?_;clear F;have F:=aI @Pt.cells (aI @Pt.isAgg (aI @Pt.getAll hlong));refine SF ?_;refine HS rfl rfl fun K' hK'=>T6 ?_;refine C1 (fL ps[k] hk3) ?_;rintro u rfl;refine AX (hK' _ _ ?_);clear hK' K';refine SF ?_;refine T2 (hK _ _ _ ?_);clear hK K;refine CF rfl ?_;by_cases ha:mD ps s k i=true
      ·
       have htk:ps[k].takes s[i]=(s[i]==ps[k].c):=by simp[Pt.takes,h0]
       have hs1:(bZ (s.length+1) (nxt ps s k i)).set (i+1) (.bool (s[i]==ps[k].c))=bZ (s.length+1) (nxt ps s k (i+1)):=gA (by rw[pB,hprt,hlong,hgd];simp[ha,htk]);refine Rg ?_;iterate 12 refine S0 ?_ (e:=fun _ h_=>by simp only[sH,↓sP,sA,tyS,simprocAttr,Int.natCast_nonneg,Int.ofNat_lt,hiN,hiN0,hil,hgd,hw1,aW,aZ hiN,aZ hiN0,dC,Int.toNat_natCast,ha];exact AX h_)
       refine bE (g:=some (64,true)) rfl rfl fun K' hK'=>?_;simp only[sH,↓sP,sA,tyS,simprocAttr,Int.natCast_nonneg,Int.ofNat_lt,hiN,hiN0,hil,hgd,hw1,aW,aZ hiN,aZ hiN0,dC,Int.toNat_natCast,ha];refine bJ9 (args:=[_]) (bY3 ps[k] s[i]) rfl (by simp) ⟨rfl,rfl,rfl,rfl⟩ ?_;rintro u rfl;refine AX (hK' _ _ ?_);clear hK' K';iterate 3 refine S0 ?_ (e:=fun _ h_=>by simp only[sH,↓sP,sA,tyS,simprocAttr,Int.natCast_nonneg,Int.ofNat_lt,hiN,hiN0,hil,hgd,hw1,aW,aZ hiN,aZ hiN0,dC,Int.toNat_natCast,ha];exact AX h_)
       refine T2 (hK _ _ _ ?_);clear hK K;refine aN (by kernel_rfl) ?_;refine TQ hw1 ?_;refine⟨⟨i+1,hil⟩,aL (by omega) (by simp[aS,fin_at,finA_at,upd_at,HV.men,HV.menL,HV.norm,HV.toC,HV.toCL,aW]) (by simp[aT,fob_at,upd_at,none0_at,bL,HO.men,HV.men,HV.menL,HV.norm,HV.toC,HV.toCL,hs1]),?_⟩;show s.length-(i+1)<s.length-i;omega
      have ha:mD ps s k i=false:=by simpa using ha
      have htk:ps[k].takes s[i]=(s[i]==ps[k].c):=by simp[Pt.takes,h0]
      have hs1:(bZ (s.length+1) (nxt ps s k i)).set (i+1) (.bool false)=bZ (s.length+1) (nxt ps s k (i+1)):=gA (by rw[pB,hprt,hlong,hgd];simp[ha,htk]);refine Rg ?_;iterate 16 refine S0 ?_ (e:=fun _ h_=>by simp only[sH,↓sP,sA,tyS,simprocAttr,Int.natCast_nonneg,Int.ofNat_lt,hiN,hiN0,hil,hgd,hw1,aW,aZ hiN,aZ hiN0,dC,Int.toNat_natCast,ha];exact AX h_)
      refine T2 (hK _ _ _ ?_);clear hK K;refine aN (by kernel_rfl) ?_;refine TQ hw1 ?_;refine⟨⟨i+1,hil⟩,aL (by omega) (by simp[aS,fin_at,finA_at,upd_at,HV.men,HV.menL,HV.norm,HV.toC,HV.toCL,aW]) (by simp[aT,fob_at,upd_at,none0_at,bL,HO.men,HV.men,HV.menL,HV.norm,HV.toC,HV.toCL,hs1]),?_⟩;show s.length-(i+1)<s.length-i;omega
     refine bD (T3 ?_);clear hK K;refine AX (hK _ _ _ ?_);clear hK K;refine aN (by kernel_rfl) ?_;refine T0 (hK _ _ _ ?_);clear hK K;have hei:i=s.length:=by simp at hb;omega
     subst hei;have hra:=uP (ps:=ps) (s:=s) (k:=k);refine dA [144] (bF (fr2:=fin [(1,.c (.str s)),(7,.c (.slc (bZ (s.length+1) (mD ps s (k+1))))),(31,.c (.slc (ps.map Pt.cv))),(32,.c (.int .i64 ps.length)),(33,.c (.int .i64 k))]) (ob2:=fob []) (nx2:=900) (aL (by omega) (by simp[aS,dI,fin_at,finA_at,upd_at,fob_at,HV.close,HV.closeL,CV.denil,CV.denilL,iO,denilL_Pt,hra,HV.men,HV.menL,HV.norm,HV.toC,HV.toCL,aW]) (by simp[aT,dJ,fob_at,upd_at,none0_at,bL,HO.close,HV.close,HV.closeL,HO.men,HV.men,HV.menL,HV.norm,HV.toC,HV.toCL])) ?_);refine aN (by kernel_rfl) ?_;refine TQ (jB k) ?_;refine⟨⟨k+1,hlt⟩,fF,?_⟩;show ps.length-(k+1)<ps.length-k;omega
    by_cases hm:mD ps s k 0=true
    ·
     have hz:(bZ (s.length+1) (fun _=>false)).set 0 (.bool false)=bZ (s.length+1) (nxt ps s k 0):=iP (by rw[hm,hprt,hlong];rfl);refine Rg ?_;iterate 6 refine S0 ?_ (e:=fun _ h_=>by simp only[sH,↓sP,sA,tyS,simprocAttr,hzn,aW,aZ (Nat.succ_pos s.length),Int.toNat_zero,hm,hlong,Pt.cells,Pt.isAgg,Pt.getAll];exact AX h_)
     refine bE (g:=some (47,true)) rfl rfl fun K' hK'=>?_;simp only[sH,↓sP,sA,tyS,simprocAttr,hzn,aW,aZ (Nat.succ_pos s.length),Int.toNat_zero,hm,hlong,Pt.cells,Pt.isAgg,Pt.getAll];refine C1 (fL ps[k] hk3) ?_;rintro u rfl;refine AX (hK' _ _ ?_);clear hK' K';iterate 3 refine S0 ?_ (e:=fun _ h_=>by simp only[sH,↓sP,sA,tyS,simprocAttr,hzn,aW,aZ (Nat.succ_pos s.length),Int.toNat_zero,hm,hlong,Pt.cells,Pt.isAgg,Pt.getAll];exact AX h_)
     refine T4 ?_;exact key _ _ _ (aL (by omega) (by simp[aS,fin_at,finA_at,upd_at,HV.men,HV.menL,HV.norm,HV.toC,HV.toCL,aW]) (by simp[aT,fob_at,upd_at,none0_at,bL,HO.men,HV.men,HV.menL,HV.norm,HV.toC,HV.toCL,hz]))
    have hm0:mD ps s k 0=false:=by simpa using hm
    have hz:(bZ (s.length+1) (fun _=>false)).set 0 (.bool false)=bZ (s.length+1) (nxt ps s k 0):=iP (by rw[hm0];rfl);refine Rg ?_;iterate 10 refine S0 ?_ (e:=fun _ h_=>by simp only[sH,↓sP,sA,tyS,simprocAttr,hzn,aW,aZ (Nat.succ_pos s.length),Int.toNat_zero,hm0,Pt.cells,Pt.isAgg,Pt.getAll];exact AX h_)
    refine T4 ?_;exact key _ _ _ (aL (by omega) (by simp[aS,fin_at,finA_at,upd_at,HV.men,HV.menL,HV.norm,HV.toC,HV.toCL,aW]) (by simp[aT,fob_at,upd_at,none0_at,bL,HO.men,HV.men,HV.menL,HV.norm,HV.toC,HV.toCL,hz]))
   by_cases h3:ps[k].k=3
   ·
    have hlong:ps[k].long=true:=by simp[Pt.long,h3]
    refine aC fun K hK=>Rg ?_;clear F;have F:=aI @Pt.cells (aI @Pt.isAgg @Pt.getAll);refine SF ?_;refine HS rfl rfl fun K' hK'=>T6 ?_;refine C1 (bF8 ps[k] h3) ?_;rintro u rfl;refine AX (hK' _ _ ?_);clear hK' K';refine SF ?_;refine T2 (hK _ _ _ ?_);clear hK K;refine aC fun K hK=>Rg ?_;clear F;have F:=aI hwn (aI hn0 (aI hrep @Int.toNat_natCast));iterate 5 refine SF ?_
    refine T2 (hK _ _ _ ?_);clear hK K;refine aC fun K hK=>?_;have key: ∀fr ob nx,Fits 0 fr ob (fin [(1,.c (.str s)),(7,.c (.slc (bZ (s.length+1) (mD ps s k)))),(9,.ptr 112 0),(10,.c (.fn 115)),(11,.own 144 (s.length+1)),(31,.c (.slc (ps.map Pt.cv))),(32,.c (.int .i64 ps.length)),(33,.c (.int .i64 k))]) (fob [(112,.box 140 (.c ps[k].cv)),(144,.row 4 1 (bZ (s.length+1) (nxt ps s k 0)))]) 250→K fr ob nx:=by
     rintro fr ob nx hf;refine hK _ _ _ (bF hf ?_);clear hf hK K;refine aC fun K hK=>?_;refine R0 ?_;refine aM ?_;refine bI (α:={i:Nat//i≤s.length}) (fun i=>(fin [(1,.c (.str s)),(7,.c (.slc (bZ (s.length+1) (mD ps s k)))),(9,.ptr 112 0),(10,.c (.fn 115)),(11,.own 144 (s.length+1)),(31,.c (.slc (ps.map Pt.cv))),(32,.c (.int .i64 ps.length)),(33,.c (.int .i64 k)),(53,.c (.int .i64 s.length)),(54,.c (.int .i64 i.1))],fob [(112,.box 140 (.c ps[k].cv)),(144,.row 4 1 (bZ (s.length+1) (nxt ps s k i.1)))])) 300 (fun i=>s.length-i.1) ⟨0,by omega⟩ (fF) ?_;rintro⟨i,hi⟩;refine R0 ?_;refine aC fun K hK=>?_;refine aG (b:=decide ((i:Int)<s.length)) rfl (fun hb=>?_) (fun hb=>?_)
     ·
      have hil:i<s.length:=by simpa using hb
      clear hb;have hgd:s.getD i 0=s[i]:=by simp[hil]
      have hiN:i+1<s.length+1:=by omega
      have hiN0:i<s.length+1:=by omega
      have hw1:IntKind.i64.wrap ((i:Int)+1)=((i+1:Nat):Int):=by rw[IntWalk.i64_in _ (by omega)];rfl
      refine aK ?_;refine T0 (hK _ _ _ ?_);clear hK K;refine aC fun K hK=>?_;refine aM ?_;refine R0 ?_;refine aM ?_;refine aC fun K hK=>Rg ?_;clear F;have F:=aI @Pt.cells (aI @Pt.isAgg (aI @Pt.getAll hlong));refine SF ?_;refine HS rfl rfl fun K' hK'=>T6 ?_;refine C1 (fL ps[k] hk3) ?_;rintro u rfl;refine AX (hK' _ _ ?_);clear hK' K';refine SF ?_;refine T2 (hK _ _ _ ?_);clear hK K;refine CT rfl ?_;by_cases ha:mD ps s k (i+1)=true
      ·
       have htk:ps[k].takes s[i]=true:=by simp[Pt.takes,h3]
       have hs1:(bZ (s.length+1) (nxt ps s k i)).set (i+1) (.bool true)=bZ (s.length+1) (nxt ps s k (i+1)):=gA (by rw[pB,hprt,hlong,hgd];simp[ha,htk]);refine Rg ?_;iterate 23 refine S0 ?_ (e:=fun _ h_=>by simp only[sH,↓sP,sA,tyS,simprocAttr,Int.natCast_nonneg,Int.ofNat_lt,hiN,hiN0,hil,hgd,hw1,aW,aZ hiN,aZ hiN0,dC,Int.toNat_natCast,ha];exact AX h_)
       refine T2 (hK _ _ _ ?_);clear hK K;refine aN (by kernel_rfl) ?_;refine TQ hw1 ?_;refine⟨⟨i+1,hil⟩,aL (by omega) (by simp[aS,fin_at,finA_at,upd_at,HV.men,HV.menL,HV.norm,HV.toC,HV.toCL,aW]) (by simp[aT,fob_at,upd_at,none0_at,bL,HO.men,HV.men,HV.menL,HV.norm,HV.toC,HV.toCL,hs1]),?_⟩;show s.length-(i+1)<s.length-i;omega
      by_cases hn:mD ps s (k+1) i=true
      ·
       have ha:mD ps s k (i+1)=false:=by simpa using ha
       have htk:ps[k].takes s[i]=true:=by simp[Pt.takes,h3]
       have hs1:(bZ (s.length+1) (nxt ps s k i)).set (i+1) (.bool true)=bZ (s.length+1) (nxt ps s k (i+1)):=gA (by rw[pB,hprt,hlong,hgd];simp[ha,hn,htk]);refine Rg ?_;iterate 18 refine S0 ?_ (e:=fun _ h_=>by simp only[sH,↓sP,sA,tyS,simprocAttr,Int.natCast_nonneg,Int.ofNat_lt,hiN,hiN0,hil,hgd,hw1,aW,aZ hiN,aZ hiN0,dC,Int.toNat_natCast,ha,hn];exact AX h_)
       refine bE (g:=some (88,true)) rfl rfl fun K' hK'=>?_;simp only[sH,↓sP,sA,tyS,simprocAttr,Int.natCast_nonneg,Int.ofNat_lt,hiN,hiN0,hil,hgd,hw1,aW,aZ hiN,aZ hiN0,dC,Int.toNat_natCast,ha,hn];refine C1 (bW7 s[i]) ?_;rintro u rfl;refine AX (hK' _ _ ?_);clear hK' K';iterate 4 refine S0 ?_ (e:=fun _ h_=>by simp only[sH,↓sP,sA,tyS,simprocAttr,Int.natCast_nonneg,Int.ofNat_lt,hiN,hiN0,hil,hgd,hw1,aW,aZ hiN,aZ hiN0,dC,Int.toNat_natCast,ha,hn];exact AX h_)
       refine T2 (hK _ _ _ ?_);clear hK K;refine aN (by kernel_rfl) ?_;refine TQ hw1 ?_;refine⟨⟨i+1,hil⟩,aL (by omega) (by simp[aS,fin_at,finA_at,upd_at,HV.men,HV.menL,HV.norm,HV.toC,HV.toCL,aW]) (by simp[aT,fob_at,upd_at,none0_at,bL,HO.men,HV.men,HV.menL,HV.norm,HV.toC,HV.toCL,hs1]),?_⟩;show s.length-(i+1)<s.length-i;omega
      have ha:mD ps s k (i+1)=false:=by simpa using ha
      have hn:mD ps s (k+1) i=false:=by simpa using hn
      have htk:ps[k].takes s[i]=true:=by simp[Pt.takes,h3]
      have hs1:(bZ (s.length+1) (nxt ps s k i)).set (i+1) (.bool false)=bZ (s.length+1) (nxt ps s k (i+1)):=gA (by rw[pB,hprt,hlong,hgd];simp[ha,hn,htk]);refine Rg ?_;iterate 23 refine S0 ?_ (e:=fun _ h_=>by simp only[sH,↓sP,sA,tyS,simprocAttr,Int.natCast_nonneg,Int.ofNat_lt,hiN,hiN0,hil,hgd,hw1,aW,aZ hiN,aZ hiN0,dC,Int.toNat_natCast,ha,hn];exact AX h_)
      refine T2 (hK _ _ _ ?_);clear hK K;refine aN (by kernel_rfl) ?_;refine TQ hw1 ?_;refine⟨⟨i+1,hil⟩,aL (by omega) (by simp[aS,fin_at,finA_at,upd_at,HV.men,HV.menL,HV.norm,HV.toC,HV.toCL,aW]) (by simp[aT,fob_at,upd_at,none0_at,bL,HO.men,HV.men,HV.menL,HV.norm,HV.toC,HV.toCL,hs1]),?_⟩;show s.length-(i+1)<s.length-i;omega
     refine bD (T3 ?_);clear hK K;refine AX (hK _ _ _ ?_);clear hK K;refine aN (by kernel_rfl) ?_;refine T0 (hK _ _ _ ?_);clear hK K;have hei:i=s.length:=by simp at hb;omega
     subst hei;have hra:=uP (ps:=ps) (s:=s) (k:=k);refine dA [144] (bF (fr2:=fin [(1,.c (.str s)),(7,.c (.slc (bZ (s.length+1) (mD ps s (k+1))))),(31,.c (.slc (ps.map Pt.cv))),(32,.c (.int .i64 ps.length)),(33,.c (.int .i64 k))]) (ob2:=fob []) (nx2:=900) (aL (by omega) (by simp[aS,dI,fin_at,finA_at,upd_at,fob_at,HV.close,HV.closeL,CV.denil,CV.denilL,iO,denilL_Pt,hra,HV.men,HV.menL,HV.norm,HV.toC,HV.toCL,aW]) (by simp[aT,dJ,fob_at,upd_at,none0_at,bL,HO.close,HV.close,HV.closeL,HO.men,HV.men,HV.menL,HV.norm,HV.toC,HV.toCL])) ?_);refine aN (by kernel_rfl) ?_;refine TQ (jB k) ?_;refine⟨⟨k+1,hlt⟩,fF,?_⟩;show ps.length-(k+1)<ps.length-k;omega
    by_cases hm:mD ps s k 0=true
    ·
     have hz:(bZ (s.length+1) (fun _=>false)).set 0 (.bool true)=bZ (s.length+1) (nxt ps s k 0):=iP (by rw[hm,hprt,hlong];rfl);refine Rg ?_;iterate 6 refine S0 ?_ (e:=fun _ h_=>by simp only[sH,↓sP,sA,tyS,simprocAttr,hzn,aW,aZ (Nat.succ_pos s.length),Int.toNat_zero,hm,hlong,Pt.cells,Pt.isAgg,Pt.getAll];exact AX h_)
     refine bE (g:=some (47,true)) rfl rfl fun K' hK'=>?_;simp only[sH,↓sP,sA,tyS,simprocAttr,hzn,aW,aZ (Nat.succ_pos s.length),Int.toNat_zero,hm,hlong,Pt.cells,Pt.isAgg,Pt.getAll];refine C1 (fL ps[k] hk3) ?_;rintro u rfl;refine AX (hK' _ _ ?_);clear hK' K';iterate 3 refine S0 ?_ (e:=fun _ h_=>by simp only[sH,↓sP,sA,tyS,simprocAttr,hzn,aW,aZ (Nat.succ_pos s.length),Int.toNat_zero,hm,hlong,Pt.cells,Pt.isAgg,Pt.getAll];exact AX h_)
     refine T4 ?_;exact key _ _ _ (aL (by omega) (by simp[aS,fin_at,finA_at,upd_at,HV.men,HV.menL,HV.norm,HV.toC,HV.toCL,aW]) (by simp[aT,fob_at,upd_at,none0_at,bL,HO.men,HV.men,HV.menL,HV.norm,HV.toC,HV.toCL,hz]))
    have hm0:mD ps s k 0=false:=by simpa using hm
    have hz:(bZ (s.length+1) (fun _=>false)).set 0 (.bool false)=bZ (s.length+1) (nxt ps s k 0):=iP (by rw[hm0];rfl);refine Rg ?_;iterate 10 refine S0 ?_ (e:=fun _ h_=>by simp only[sH,↓sP,sA,tyS,simprocAttr,hzn,aW,aZ (Nat.succ_pos s.length),Int.toNat_zero,hm0,Pt.cells,Pt.isAgg,Pt.getAll];exact AX h_)
    refine T4 ?_;exact key _ _ _ (aL (by omega) (by simp[aS,fin_at,finA_at,upd_at,HV.men,HV.menL,HV.norm,HV.toC,HV.toCL,aW]) (by simp[aT,fob_at,upd_at,none0_at,bL,HO.men,HV.men,HV.menL,HV.norm,HV.toC,HV.toCL,hz]))
   by_cases h1:ps[k].k=1
   ·
    have hlong:ps[k].long=false:=by simp[Pt.long,h1]
    refine aC fun K hK=>Rg ?_;clear F;have F:=aI @Pt.cells (aI @Pt.isAgg @Pt.getAll);refine SF ?_;refine HS rfl rfl fun K' hK'=>T6 ?_;refine C1 (aA1 ps[k] (.inl h1)) ?_;rintro u rfl;refine AX (hK' _ _ ?_);clear hK' K';refine SF ?_;refine T2 (hK _ _ _ ?_);clear hK K;refine aC fun K hK=>Rg ?_;clear F;have F:=aI hwn (aI hn0 (aI hrep @Int.toNat_natCast));iterate 5 refine SF ?_
    refine T2 (hK _ _ _ ?_);clear hK K;refine aC fun K hK=>?_;have key: ∀fr ob nx,Fits 0 fr ob (fin [(1,.c (.str s)),(7,.c (.slc (bZ (s.length+1) (mD ps s k)))),(9,.ptr 112 0),(10,.c (.fn 116)),(11,.own 144 (s.length+1)),(31,.c (.slc (ps.map Pt.cv))),(32,.c (.int .i64 ps.length)),(33,.c (.int .i64 k))]) (fob [(112,.box 140 (.c ps[k].cv)),(144,.row 4 1 (bZ (s.length+1) (nxt ps s k 0)))]) 250→K fr ob nx:=by
     rintro fr ob nx hf;refine hK _ _ _ (bF hf ?_);clear hf hK K;refine aC fun K hK=>?_;refine R0 ?_;refine aM ?_;refine bI (α:={i:Nat//i≤s.length}) (fun i=>(fin [(1,.c (.str s)),(7,.c (.slc (bZ (s.length+1) (mD ps s k)))),(9,.ptr 112 0),(10,.c (.fn 116)),(11,.own 144 (s.length+1)),(31,.c (.slc (ps.map Pt.cv))),(32,.c (.int .i64 ps.length)),(33,.c (.int .i64 k)),(53,.c (.int .i64 s.length)),(54,.c (.int .i64 i.1))],fob [(112,.box 140 (.c ps[k].cv)),(144,.row 4 1 (bZ (s.length+1) (nxt ps s k i.1)))])) 300 (fun i=>s.length-i.1) ⟨0,by omega⟩ (fF) ?_;rintro⟨i,hi⟩;refine R0 ?_;refine aC fun K hK=>?_;refine aG (b:=decide ((i:Int)<s.length)) rfl (fun hb=>?_) (fun hb=>?_)
     ·
      have hil:i<s.length:=by simpa using hb
      clear hb;have hgd:s.getD i 0=s[i]:=by simp[hil]
      have hiN:i+1<s.length+1:=by omega
      have hiN0:i<s.length+1:=by omega
      have hw1:IntKind.i64.wrap ((i:Int)+1)=((i+1:Nat):Int):=by rw[IntWalk.i64_in _ (by omega)];rfl
      refine aK ?_;refine T0 (hK _ _ _ ?_);clear hK K;refine aC fun K hK=>?_;refine aM ?_;refine R0 ?_;refine aM ?_;refine aC fun K hK=>Rg ?_;clear F;have F:=aI @Pt.cells (aI @Pt.isAgg (aI @Pt.getAll hlong));refine SF ?_;refine HS rfl rfl fun K' hK'=>T6 ?_;refine C1 (fL ps[k] hk3) ?_;rintro u rfl;refine AX (hK' _ _ ?_);clear hK' K';refine SF ?_;refine T2 (hK _ _ _ ?_);clear hK K;refine CF rfl ?_;by_cases ha:mD ps s k i=true
      ·
       have htk:ps[k].takes s[i]=(!(s[i]==47)):=by simp[Pt.takes,h1]
       have hs1:(bZ (s.length+1) (nxt ps s k i)).set (i+1) (.bool (!(s[i]==47)))=bZ (s.length+1) (nxt ps s k (i+1)):=gA (by rw[pB,hprt,hlong,hgd];simp[ha,htk]);refine Rg ?_;iterate 12 refine S0 ?_ (e:=fun _ h_=>by simp only[sH,↓sP,sA,tyS,simprocAttr,Int.natCast_nonneg,Int.ofNat_lt,hiN,hiN0,hil,hgd,hw1,aW,aZ hiN,aZ hiN0,dC,Int.toNat_natCast,ha];exact AX h_)
       refine bE (g:=some (64,true)) rfl rfl fun K' hK'=>?_;simp only[sH,↓sP,sA,tyS,simprocAttr,Int.natCast_nonneg,Int.ofNat_lt,hiN,hiN0,hil,hgd,hw1,aW,aZ hiN,aZ hiN0,dC,Int.toNat_natCast,ha];refine C1 (aY5 s[i]) ?_;rintro u rfl;refine AX (hK' _ _ ?_);clear hK' K';iterate 3 refine S0 ?_ (e:=fun _ h_=>by simp only[sH,↓sP,sA,tyS,simprocAttr,Int.natCast_nonneg,Int.ofNat_lt,hiN,hiN0,hil,hgd,hw1,aW,aZ hiN,aZ hiN0,dC,Int.toNat_natCast,ha];exact AX h_)
       refine T2 (hK _ _ _ ?_);clear hK K;refine aN (by kernel_rfl) ?_;refine TQ hw1 ?_;refine⟨⟨i+1,hil⟩,aL (by omega) (by simp[aS,fin_at,finA_at,upd_at,HV.men,HV.menL,HV.norm,HV.toC,HV.toCL,aW]) (by simp[aT,fob_at,upd_at,none0_at,bL,HO.men,HV.men,HV.menL,HV.norm,HV.toC,HV.toCL,hs1]),?_⟩;show s.length-(i+1)<s.length-i;omega
      have ha:mD ps s k i=false:=by simpa using ha
      have htk:ps[k].takes s[i]=(!(s[i]==47)):=by simp[Pt.takes,h1]
      have hs1:(bZ (s.length+1) (nxt ps s k i)).set (i+1) (.bool false)=bZ (s.length+1) (nxt ps s k (i+1)):=gA (by rw[pB,hprt,hlong,hgd];simp[ha,htk]);refine Rg ?_;iterate 16 refine S0 ?_ (e:=fun _ h_=>by simp only[sH,↓sP,sA,tyS,simprocAttr,Int.natCast_nonneg,Int.ofNat_lt,hiN,hiN0,hil,hgd,hw1,aW,aZ hiN,aZ hiN0,dC,Int.toNat_natCast,ha];exact AX h_)
      refine T2 (hK _ _ _ ?_);clear hK K;refine aN (by kernel_rfl) ?_;refine TQ hw1 ?_;refine⟨⟨i+1,hil⟩,aL (by omega) (by simp[aS,fin_at,finA_at,upd_at,HV.men,HV.menL,HV.norm,HV.toC,HV.toCL,aW]) (by simp[aT,fob_at,upd_at,none0_at,bL,HO.men,HV.men,HV.menL,HV.norm,HV.toC,HV.toCL,hs1]),?_⟩;show s.length-(i+1)<s.length-i;omega
     refine bD (T3 ?_);clear hK K;refine AX (hK _ _ _ ?_);clear hK K;refine aN (by kernel_rfl) ?_;refine T0 (hK _ _ _ ?_);clear hK K;have hei:i=s.length:=by simp at hb;omega
     subst hei;have hra:=uP (ps:=ps) (s:=s) (k:=k);refine dA [144] (bF (fr2:=fin [(1,.c (.str s)),(7,.c (.slc (bZ (s.length+1) (mD ps s (k+1))))),(31,.c (.slc (ps.map Pt.cv))),(32,.c (.int .i64 ps.length)),(33,.c (.int .i64 k))]) (ob2:=fob []) (nx2:=900) (aL (by omega) (by simp[aS,dI,fin_at,finA_at,upd_at,fob_at,HV.close,HV.closeL,CV.denil,CV.denilL,iO,denilL_Pt,hra,HV.men,HV.menL,HV.norm,HV.toC,HV.toCL,aW]) (by simp[aT,dJ,fob_at,upd_at,none0_at,bL,HO.close,HV.close,HV.closeL,HO.men,HV.men,HV.menL,HV.norm,HV.toC,HV.toCL])) ?_);refine aN (by kernel_rfl) ?_;refine TQ (jB k) ?_;refine⟨⟨k+1,hlt⟩,fF,?_⟩;show ps.length-(k+1)<ps.length-k;omega
    by_cases hm:mD ps s k 0=true
    ·
     have hz:(bZ (s.length+1) (fun _=>false)).set 0 (.bool false)=bZ (s.length+1) (nxt ps s k 0):=iP (by rw[hm,hprt,hlong];rfl);refine Rg ?_;iterate 6 refine S0 ?_ (e:=fun _ h_=>by simp only[sH,↓sP,sA,tyS,simprocAttr,hzn,aW,aZ (Nat.succ_pos s.length),Int.toNat_zero,hm,hlong,Pt.cells,Pt.isAgg,Pt.getAll];exact AX h_)
     refine bE (g:=some (47,true)) rfl rfl fun K' hK'=>?_;simp only[sH,↓sP,sA,tyS,simprocAttr,hzn,aW,aZ (Nat.succ_pos s.length),Int.toNat_zero,hm,hlong,Pt.cells,Pt.isAgg,Pt.getAll];refine C1 (fL ps[k] hk3) ?_;rintro u rfl;refine AX (hK' _ _ ?_);clear hK' K';iterate 3 refine S0 ?_ (e:=fun _ h_=>by simp only[sH,↓sP,sA,tyS,simprocAttr,hzn,aW,aZ (Nat.succ_pos s.length),Int.toNat_zero,hm,hlong,Pt.cells,Pt.isAgg,Pt.getAll];exact AX h_)
     refine T4 ?_;exact key _ _ _ (aL (by omega) (by simp[aS,fin_at,finA_at,upd_at,HV.men,HV.menL,HV.norm,HV.toC,HV.toCL,aW]) (by simp[aT,fob_at,upd_at,none0_at,bL,HO.men,HV.men,HV.menL,HV.norm,HV.toC,HV.toCL,hz]))
    have hm0:mD ps s k 0=false:=by simpa using hm
    have hz:(bZ (s.length+1) (fun _=>false)).set 0 (.bool false)=bZ (s.length+1) (nxt ps s k 0):=iP (by rw[hm0];rfl);refine Rg ?_;iterate 10 refine S0 ?_ (e:=fun _ h_=>by simp only[sH,↓sP,sA,tyS,simprocAttr,hzn,aW,aZ (Nat.succ_pos s.length),Int.toNat_zero,hm0,Pt.cells,Pt.isAgg,Pt.getAll];exact AX h_)
    refine T4 ?_;exact key _ _ _ (aL (by omega) (by simp[aS,fin_at,finA_at,upd_at,HV.men,HV.menL,HV.norm,HV.toC,HV.toCL,aW]) (by simp[aT,fob_at,upd_at,none0_at,bL,HO.men,HV.men,HV.menL,HV.norm,HV.toC,HV.toCL,hz]))
   have h2:ps[k].k=2:=by omega
   have hlong:ps[k].long=true:=by simp[Pt.long,h2]
   refine aC fun K hK=>Rg ?_;clear F;have F:=aI @Pt.cells (aI @Pt.isAgg @Pt.getAll);refine SF ?_;refine HS rfl rfl fun K' hK'=>T6 ?_;refine C1 (aA1 ps[k] (.inr h2)) ?_;rintro u rfl;refine AX (hK' _ _ ?_);clear hK' K';refine SF ?_;refine T2 (hK _ _ _ ?_);clear hK K;refine aC fun K hK=>Rg ?_;clear F;have F:=aI hwn (aI hn0 (aI hrep @Int.toNat_natCast));iterate 5 refine SF ?_
   refine T2 (hK _ _ _ ?_);clear hK K;refine aC fun K hK=>?_;have key: ∀fr ob nx,Fits 0 fr ob (fin [(1,.c (.str s)),(7,.c (.slc (bZ (s.length+1) (mD ps s k)))),(9,.ptr 112 0),(10,.c (.fn 116)),(11,.own 144 (s.length+1)),(31,.c (.slc (ps.map Pt.cv))),(32,.c (.int .i64 ps.length)),(33,.c (.int .i64 k))]) (fob [(112,.box 140 (.c ps[k].cv)),(144,.row 4 1 (bZ (s.length+1) (nxt ps s k 0)))]) 250→K fr ob nx:=by
    rintro fr ob nx hf;refine hK _ _ _ (bF hf ?_);clear hf hK K;refine aC fun K hK=>?_;refine R0 ?_;refine aM ?_;refine bI (α:={i:Nat//i≤s.length}) (fun i=>(fin [(1,.c (.str s)),(7,.c (.slc (bZ (s.length+1) (mD ps s k)))),(9,.ptr 112 0),(10,.c (.fn 116)),(11,.own 144 (s.length+1)),(31,.c (.slc (ps.map Pt.cv))),(32,.c (.int .i64 ps.length)),(33,.c (.int .i64 k)),(53,.c (.int .i64 s.length)),(54,.c (.int .i64 i.1))],fob [(112,.box 140 (.c ps[k].cv)),(144,.row 4 1 (bZ (s.length+1) (nxt ps s k i.1)))])) 300 (fun i=>s.length-i.1) ⟨0,by omega⟩ (fF) ?_;rintro⟨i,hi⟩;refine R0 ?_;refine aC fun K hK=>?_;refine aG (b:=decide ((i:Int)<s.length)) rfl (fun hb=>?_) (fun hb=>?_)
    ·
     have hil:i<s.length:=by simpa using hb
     clear hb;have hgd:s.getD i 0=s[i]:=by simp[hil]
     have hiN:i+1<s.length+1:=by omega
     have hiN0:i<s.length+1:=by omega
     have hw1:IntKind.i64.wrap ((i:Int)+1)=((i+1:Nat):Int):=by rw[IntWalk.i64_in _ (by omega)];rfl
     refine aK ?_;refine T0 (hK _ _ _ ?_);clear hK K;refine aC fun K hK=>?_;refine aM ?_;refine R0 ?_;refine aM ?_;refine aC fun K hK=>Rg ?_;clear F;have F:=aI @Pt.cells (aI @Pt.isAgg (aI @Pt.getAll hlong));refine SF ?_;refine HS rfl rfl fun K' hK'=>T6 ?_;refine C1 (fL ps[k] hk3) ?_;rintro u rfl;refine AX (hK' _ _ ?_);clear hK' K';refine SF ?_;refine T2 (hK _ _ _ ?_);clear hK K;refine CT rfl ?_;by_cases ha:mD ps s k (i+1)=true
     ·
      have htk:ps[k].takes s[i]=(!(s[i]==47)):=by simp[Pt.takes,h2]
      have hs1:(bZ (s.length+1) (nxt ps s k i)).set (i+1) (.bool true)=bZ (s.length+1) (nxt ps s k (i+1)):=gA (by rw[pB,hprt,hlong,hgd];simp[ha,htk]);refine Rg ?_;iterate 23 refine S0 ?_ (e:=fun _ h_=>by simp only[sH,↓sP,sA,tyS,simprocAttr,Int.natCast_nonneg,Int.ofNat_lt,hiN,hiN0,hil,hgd,hw1,aW,aZ hiN,aZ hiN0,dC,Int.toNat_natCast,ha];exact AX h_)
      refine T2 (hK _ _ _ ?_);clear hK K;refine aN (by kernel_rfl) ?_;refine TQ hw1 ?_;refine⟨⟨i+1,hil⟩,aL (by omega) (by simp[aS,fin_at,finA_at,upd_at,HV.men,HV.menL,HV.norm,HV.toC,HV.toCL,aW]) (by simp[aT,fob_at,upd_at,none0_at,bL,HO.men,HV.men,HV.menL,HV.norm,HV.toC,HV.toCL,hs1]),?_⟩;show s.length-(i+1)<s.length-i;omega
     by_cases hn:mD ps s (k+1) i=true
     ·
      have ha:mD ps s k (i+1)=false:=by simpa using ha
      have htk:ps[k].takes s[i]=(!(s[i]==47)):=by simp[Pt.takes,h2]
      have hs1:(bZ (s.length+1) (nxt ps s k i)).set (i+1) (.bool (!(s[i]==47)))=bZ (s.length+1) (nxt ps s k (i+1)):=gA (by rw[pB,hprt,hlong,hgd];simp[ha,hn,htk]);refine Rg ?_;iterate 18 refine S0 ?_ (e:=fun _ h_=>by simp only[sH,↓sP,sA,tyS,simprocAttr,Int.natCast_nonneg,Int.ofNat_lt,hiN,hiN0,hil,hgd,hw1,aW,aZ hiN,aZ hiN0,dC,Int.toNat_natCast,ha,hn];exact AX h_)
      refine bE (g:=some (88,true)) rfl rfl fun K' hK'=>?_;simp only[sH,↓sP,sA,tyS,simprocAttr,Int.natCast_nonneg,Int.ofNat_lt,hiN,hiN0,hil,hgd,hw1,aW,aZ hiN,aZ hiN0,dC,Int.toNat_natCast,ha,hn];refine C1 (aY5 s[i]) ?_;rintro u rfl;refine AX (hK' _ _ ?_);clear hK' K';iterate 4 refine S0 ?_ (e:=fun _ h_=>by simp only[sH,↓sP,sA,tyS,simprocAttr,Int.natCast_nonneg,Int.ofNat_lt,hiN,hiN0,hil,hgd,hw1,aW,aZ hiN,aZ hiN0,dC,Int.toNat_natCast,ha,hn];exact AX h_)
      refine T2 (hK _ _ _ ?_);clear hK K;refine aN (by kernel_rfl) ?_;refine TQ hw1 ?_;refine⟨⟨i+1,hil⟩,aL (by omega) (by simp[aS,fin_at,finA_at,upd_at,HV.men,HV.menL,HV.norm,HV.toC,HV.toCL,aW]) (by simp[aT,fob_at,upd_at,none0_at,bL,HO.men,HV.men,HV.menL,HV.norm,HV.toC,HV.toCL,hs1]),?_⟩;show s.length-(i+1)<s.length-i;omega
     have ha:mD ps s k (i+1)=false:=by simpa using ha
     have hn:mD ps s (k+1) i=false:=by simpa using hn
     have htk:ps[k].takes s[i]=(!(s[i]==47)):=by simp[Pt.takes,h2]
     have hs1:(bZ (s.length+1) (nxt ps s k i)).set (i+1) (.bool false)=bZ (s.length+1) (nxt ps s k (i+1)):=gA (by rw[pB,hprt,hlong,hgd];simp[ha,hn,htk]);refine Rg ?_;iterate 23 refine S0 ?_ (e:=fun _ h_=>by simp only[sH,↓sP,sA,tyS,simprocAttr,Int.natCast_nonneg,Int.ofNat_lt,hiN,hiN0,hil,hgd,hw1,aW,aZ hiN,aZ hiN0,dC,Int.toNat_natCast,ha,hn];exact AX h_)
     refine T2 (hK _ _ _ ?_);clear hK K;refine aN (by kernel_rfl) ?_;refine TQ hw1 ?_;refine⟨⟨i+1,hil⟩,aL (by omega) (by simp[aS,fin_at,finA_at,upd_at,HV.men,HV.menL,HV.norm,HV.toC,HV.toCL,aW]) (by simp[aT,fob_at,upd_at,none0_at,bL,HO.men,HV.men,HV.menL,HV.norm,HV.toC,HV.toCL,hs1]),?_⟩;show s.length-(i+1)<s.length-i;omega
    refine bD (T3 ?_);clear hK K;refine AX (hK _ _ _ ?_);clear hK K;refine aN (by kernel_rfl) ?_;refine T0 (hK _ _ _ ?_);clear hK K;have hei:i=s.length:=by simp at hb;omega
    subst hei;have hra:=uP (ps:=ps) (s:=s) (k:=k);refine dA [144] (bF (fr2:=fin [(1,.c (.str s)),(7,.c (.slc (bZ (s.length+1) (mD ps s (k+1))))),(31,.c (.slc (ps.map Pt.cv))),(32,.c (.int .i64 ps.length)),(33,.c (.int .i64 k))]) (ob2:=fob []) (nx2:=900) (aL (by omega) (by simp[aS,dI,fin_at,finA_at,upd_at,fob_at,HV.close,HV.closeL,CV.denil,CV.denilL,iO,denilL_Pt,hra,HV.men,HV.menL,HV.norm,HV.toC,HV.toCL,aW]) (by simp[aT,dJ,fob_at,upd_at,none0_at,bL,HO.close,HV.close,HV.closeL,HO.men,HV.men,HV.menL,HV.norm,HV.toC,HV.toCL])) ?_);refine aN (by kernel_rfl) ?_;refine TQ (jB k) ?_;refine⟨⟨k+1,hlt⟩,fF,?_⟩;show ps.length-(k+1)<ps.length-k;omega
   by_cases hm:mD ps s k 0=true
   ·
    have hz:(bZ (s.length+1) (fun _=>false)).set 0 (.bool true)=bZ (s.length+1) (nxt ps s k 0):=iP (by rw[hm,hprt,hlong];rfl);refine Rg ?_;iterate 6 refine S0 ?_ (e:=fun _ h_=>by simp only[sH,↓sP,sA,tyS,simprocAttr,hzn,aW,aZ (Nat.succ_pos s.length),Int.toNat_zero,hm,hlong,Pt.cells,Pt.isAgg,Pt.getAll];exact AX h_)
    refine bE (g:=some (47,true)) rfl rfl fun K' hK'=>?_;simp only[sH,↓sP,sA,tyS,simprocAttr,hzn,aW,aZ (Nat.succ_pos s.length),Int.toNat_zero,hm,hlong,Pt.cells,Pt.isAgg,Pt.getAll];refine C1 (fL ps[k] hk3) ?_;rintro u rfl;refine AX (hK' _ _ ?_);clear hK' K';iterate 3 refine S0 ?_ (e:=fun _ h_=>by simp only[sH,↓sP,sA,tyS,simprocAttr,hzn,aW,aZ (Nat.succ_pos s.length),Int.toNat_zero,hm,hlong,Pt.cells,Pt.isAgg,Pt.getAll];exact AX h_)
    refine T4 ?_;exact key _ _ _ (aL (by omega) (by simp[aS,fin_at,finA_at,upd_at,HV.men,HV.menL,HV.norm,HV.toC,HV.toCL,aW]) (by simp[aT,fob_at,upd_at,none0_at,bL,HO.men,HV.men,HV.menL,HV.norm,HV.toC,HV.toCL,hz]))
   have hm0:mD ps s k 0=false:=by simpa using hm
   have hz:(bZ (s.length+1) (fun _=>false)).set 0 (.bool false)=bZ (s.length+1) (nxt ps s k 0):=iP (by rw[hm0];rfl);refine Rg ?_;iterate 10 refine S0 ?_ (e:=fun _ h_=>by simp only[sH,↓sP,sA,tyS,simprocAttr,hzn,aW,aZ (Nat.succ_pos s.length),Int.toNat_zero,hm0,Pt.cells,Pt.isAgg,Pt.getAll];exact AX h_)
   refine T4 ?_;exact key _ _ _ (aL (by omega) (by simp[aS,fin_at,finA_at,upd_at,HV.men,HV.menL,HV.norm,HV.toC,HV.toCL,aW]) (by simp[aT,fob_at,upd_at,none0_at,bL,HO.men,HV.men,HV.menL,HV.norm,HV.toC,HV.toCL,hz]))
  refine bD (T3 ?_);clear hK K;refine AX (hK _ _ _ ?_);clear hK K;have hek:k=ps.length:=by simp at hb;omega
  subst hek;refine aC fun K hK=>Rg ?_;iterate 6 refine S0 ?_ (e:=fun _ h_=>by simp only[sH,↓sP,sA,tyS,simprocAttr,Int.natCast_nonneg,Int.ofNat_lt,Nat.lt_succ_self,aW,aZ (Nat.lt_succ_self s.length),Int.toNat_natCast];exact AX h_)
  refine T2 (hK _ _ _ ?_);clear hK K;refine aF (RT Tryz.results72 ?_);exact aJ [] (.bool (mD ps s ps.length s.length)) rfl (by rw[hmv])
 rename_i ps;have hs0:kI s=false:=by simpa using hs
 refine aC fun K hK=>Rg ?_;iterate 4 refine S0 ?_ (e:=fun _ h_=>by simp only[sH,↓sP,sA,tyS,simprocAttr,Option.isSome_some,Bool.not_true,hs0,Bool.not_false,Option.getD_some];exact AX h_)
 refine bE (g:=some (20,false)) rfl rfl fun K' hK'=>?_;simp only[sH,↓sP,sA,tyS,simprocAttr,Option.isSome_some,Bool.not_true,hs0,Bool.not_false,Option.getD_some];refine C1 (aZ3 s) ?_;rintro u rfl;refine AX (hK' _ _ ?_);clear hK' K';iterate 2 refine S0 ?_ (e:=fun _ h_=>by simp only[sH,↓sP,sA,tyS,simprocAttr,Option.isSome_some,Bool.not_true,hs0,Bool.not_false,Option.getD_some];exact AX h_)
 refine T2 (hK _ _ _ ?_);clear hK K;refine CT rfl ?_;refine R0 ?_;refine aF (RT Tryz.results72 ?_);exact aJ [] (.bool false) rfl (by rw[aN1 hs0])
end Go.Proofs.YtlldglbooaefhaaGreatDoor
namespace Go.Pl
open Go Go.Hl
section
variable {ps:List Pt}{s:aH}
end
end Go.Pl
namespace Go.Proofs.YtlldglbooaefhaaGreatDoor
open Go Go.Hl Go.Pl
set_option maxRecDepth 10000
set_option maxHeartbeats 16000000
end Go.Proofs.YtlldglbooaefhaaGreatDoor
namespace Go.Pl
open Go Go.Hl
variable {q:Rq}
theorem bP8 (h:(q.k==1||(q.k==3||q.k==5))=true):dR q=(inB q.n 1 32&&fI q ⟨q.k,q.n,0,[]⟩):=by grind[dR,fI]
theorem aN4 (h:q.k=4):dR q=((inB q.n 1 32&&inB q.m 0 32)&&fI q ⟨q.k,q.n,q.m,[]⟩):=by simp[dR,h,fI,Bool.and_assoc]
theorem bP9 (h:q.k=2):dR q=(dG q.t&&fI q ⟨q.k,0,0,q.t⟩):=by simp[dR,h,fI]
theorem bQ0 (h:q.k=6):dR q=(inB q.n 1 10&&fI q ⟨q.k,q.n,0,[]⟩):=by simp[dR,h,fI]
theorem bQ1 (h:q.k=7):dR q=(inB q.n 0 sC&&fI q ⟨q.k,q.n,0,[]⟩):=by simp[dR,h,fI]
theorem bQ2 (h:q.k=8):dR q=(true&&fI q ⟨q.k,0,0,[]⟩):=by simp[dR,h,fI]
theorem aZ4 (h:(q.k==1||(q.k==3||q.k==5))=false)(h4:q.k≠4)(h2:q.k≠2)(h6:q.k≠6)(h7:q.k≠7)(h8:q.k≠8):dR q=false:=by simp_all[dR,if_neg]
theorem wY (h:(q.k==1||(q.k==3||q.k==5))=true):dR q=(inB q.n 1 32&&(q.m==0&&q.t==[])):=by simp_all[dR,if_pos]
theorem rC (h:(q.k==4)=true):dR q=(inB q.n 1 32&&(decide (0≤q.m)&&(decide (q.m≤32)&&q.t==[]))):=by grind[dR,inB,Bool.and_assoc]
theorem wZ (h:(q.k==2)=true):dR q=(q.n==0&&(q.m==0&&dG q.t)):=by grind[dR,dG]
theorem rD (h:(q.k==6)=true):dR q=(decide (1≤q.n)&&(decide (q.n≤10)&&(q.m==0&&q.t==[]))):=by grind[dR,inB,Bool.and_assoc]
theorem xA (h:(q.k==7)=true):dR q=(inN q.n&&(q.m==0&&q.t==[])):=by
 have h':q.k=7:=by simpa using h
 have e:inB q.n 0 sC=inN q.n:=rfl;simp[dR,h',e]
theorem xB (h:(q.k==8)=true):dR q=(q.n==0&&(q.m==0&&q.t==[])):=by grind[dR]
def nX (n:Nd):Bool:=
 if n.k=1 then n.c==0&&(n.n==0&&dR n.q)
 else if n.k=2∨n.k=3 then decide (1≤n.c)&&(n.n==0&&fI n.q rq0)
 else if n.k=4 then decide (1≤n.c)&&(decide (1≤n.n)&&(decide (n.n≤n.c)&&fI n.q rq0))
 else false
theorem aE7 (n:Nd):bR n=(nX n&&!decide (60<n.c)):=by
 unfold bR nX inB;have e:(!decide (60<n.c))=decide (n.c≤60):=by
  by_cases h:n.c≤60
  · rw[decide_eq_true h,decide_eq_false (by omega)];rfl
  · rw[decide_eq_false h,decide_eq_true (by omega)];rfl
 rw[e];split
 ·
  by_cases h:n.c=0
  · simp[h]
  · simp[h]
 ·
  split
  · generalize decide (1≤n.c)=A;generalize decide (n.c≤60)=B;generalize fI n.q rq0=C;generalize (n.n==0)=D;cases A<;>cases B<;>cases C<;>cases D<;>rfl
  ·
   split
   · generalize decide (1≤n.c)=A;generalize decide (n.c≤60)=B;generalize fI n.q rq0=C;generalize decide (1≤n.n)=D;generalize decide (n.n≤n.c)=E;cases A<;>cases B<;>cases C<;>cases D<;>cases E<;>rfl
   · rfl
variable {n:Nd}
theorem pN (h:n.k=1):bR n=(n.c==0&&(n.n==0&&dR n.q)):=by simp only[bR,if_pos h]
theorem aA2 (h:(n.k==2||n.k==3)=true):bR n=((inB n.c 1 60&&fI n.q rq0)&&n.n==0):=by
 have h':n.k=2∨n.k=3:=by simpa using h
 have h1:n.k≠1:=by omega
 simp_all[bR,if_neg,if_pos,Bool.and_assoc]
theorem pO (h:n.k=4):bR n=((inB n.c 1 60&&fI n.q rq0)&&inB n.n 1 n.c):=by simp_all[bR,if_neg,if_pos,Bool.and_assoc]
theorem bQ3 (h1:n.k≠1)(h:(n.k==2||n.k==3)=false)(h4:n.k≠4):bR n=false:=by simp_all[bR,if_neg]
theorem pP (h:n.k=1):nX n=(n.c==0&&(n.n==0&&dR n.q)):=by simp only[nX,if_pos h]
theorem sV (h:(n.k==2||n.k==3)=true):nX n=(decide (1≤n.c)&&(n.n==0&&fI n.q rq0)):=by
 have h':n.k=2∨n.k=3:=by simpa using h
 have h1:n.k≠1:=by omega
 simp_all[nX,if_neg,if_pos]
theorem mE (h:n.k=4):nX n=(decide (1≤n.c)&&(decide (1≤n.n)&&(decide (n.n≤n.c)&&fI n.q rq0))):=by simp_all[nX,if_neg,if_pos]
theorem bQ4 (h1:n.k≠1)(h:(n.k==2||n.k==3)=false)(h4:n.k≠4):nX n=false:=by simp_all[nX,if_neg]
structure ScSt (l:List Nd)(i:Nat)(m v:Int):Prop where
 le:i≤l.length
 eq:qF l 1 0=qF (l.drop i) m v
 m0:0≤m
 m1:m≤1+60*i
 v0:0≤v
 v1:v≤i
theorem ScSt.init (l:List Nd):ScSt l 0 1 0:=⟨by omega,rfl,by omega,by omega,by omega,by omega⟩
variable {m v:Int}{i:Nat}{l:List Nd}
theorem ScSt.stop (h:ScSt l i m v)(hi:i<l.length)(hb:m=0∨bR l[i]=false):dK l=false:=by
 have:qF l 1 0=none:=by
  rw[h.eq,List.drop_eq_getElem_cons hi,qF];rcases hb with hb|hb
  · rw[if_pos hb]
  · grind
 simp[dK,this]
theorem ScSt.next (h:ScSt l i m v)(hi:i<l.length)(hm:m≠0)(hb:bR l[i]=true):ScSt l (i+1) (m+(l[i].c-1)) (if l[i].k=1 then v+1 else v):=by
 obtain⟨c1,c2,_,_⟩:=dV hb;have h0:=h.m0;have h1:=h.m1;have h2:=h.v0;have h3:=h.v1;refine⟨hi,?_,by omega,by omega,?_,?_⟩
 · rw[h.eq,List.drop_eq_getElem_cons hi,qF,if_neg hm,if_pos hb]
 all_goals grind
theorem ScSt.fin (h:ScSt l l.length m v)(h1:1≤l.length)(h2:l.length≤60):dK l=(m==0&&decide (v≤16)):=by
 have:qF l 1 0=some (m,v):=by rw[h.eq,List.drop_length];rfl
 grind[dK]
theorem kL (h:l.length<1∨60<l.length):dK l=false:=by grind[dK]
theorem pQ {l:List Nd}{i:Int}(h:dK l=false∨i<0∨(l.length:Int)≤i):sO l i=[]:=by
 unfold sO;grind
theorem bG3 (h:dK l=true)(hi:i<l.length):sO l i=kJ l l[i].c.toNat (i+1):=by simp_all[sO,if_pos,bM8]
theorem tW (h:dK l=false):jC l=[]:=by simp[jC,h]
theorem pR (h:dK l=true):jC l=gN 0 l:=by simp[jC,h]
theorem pD : ∀{l:List Bool} {k:Nat},k<l.length→cnt (l.take (k+1))=cnt (l.take k)+(if l.getD k false=true then 1 else 0)
 |x::l,0,_=>by cases x<;>simp[cnt]
 |x::l,k+1,h=>by
  have h':k<l.length:=by simpa using h
  have e: ∀m,cnt ((x::l).take (m+1))=(if x=true then 1 else 0)+cnt (l.take m):=fun m=>by grind[cnt]
  rw[e,e,pD h'];grind
theorem aZ5 (h:i<l.length):lv (l.take (i+1))=lv (l.take i)+(if l[i].k=1 then 1 else 0):=by grind[List.take_succ_eq_append_getElem,sD,lv]
theorem aT9 (l:List Nd)(i:Nat):lv (l.take i)≤i:=by grind[cB7]
def bwL (l:List Nd):List (List CV):=(List.range l.length).map fun j=>[.int .i64 (l.length-1-j:Nat),(l.getD (l.length-1-j) nd0).cv]
theorem rE (l:List Nd):(bwL l).length=l.length:=by simp[bwL]
theorem bQ5 {l:List Nd}{j:Nat}(h:j<(bwL l).length)(h2:l.length-1-j<l.length):(bwL l)[j]=[.int .i64 (l.length-1-j:Nat),(l[l.length-1-j]).cv]:=by simp[bwL,h2]
end Go.Pl
