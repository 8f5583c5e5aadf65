/- The supports that a law of chapter 31 is given, by content. By an AI agent. -/
import Derived.Test.YthedbjfipmkpiaaGreatDoorHdUn
import Derived.Test.YthedbjfipmkpiaaGreatDoorHlTop
import Derived.Test.YthedbjfipmkpiaaGreatDoorHdY4
import Derived.Test.YthedbjfipmkpiaaGreatDoorHdUq
import Derived.Test.YthedbjfipmkpiaaGreatDoorHlIt
import Derived.Test.YthedbjfipmkpiaaGreatDoorHdT5
set_option linter.unusedSimpArgs false
set_option linter.unusedVariables false
set_option linter.defProp false
namespace Go.Proofs.YthedbjfipmkpiaaGreatDoor
open Go Go.Hl Go.Pl
set_option maxRecDepth 10000
set_option maxHeartbeats 16000000
theorem aE7 (S:List Sp)(hl:S.length<2^40):cF Tryz.prog 31 [.slc (S.map Sp.cv)] (fun v=>v= .slc ((cG S).map bC)):=by
 refine bQ Tryz.func31 rfl (by kernel_rfl) (cR _) (Nat.le_of_ble_eq_true rfl) ?_;refine aC fun K hK=>aD (by kernel_rfl) ?_;simp (maxSteps:=4000000) only[↓sP,sA,tyS,simprocAttr];repeat refine AI ?_
 refine hK _ _ _ ?_;clear hK K;refine aC fun K hK=>aD (by kernel_rfl) ?_;simp (maxSteps:=4000000) only[↓sP,sA,tyS,simprocAttr];repeat refine AI ?_
 refine hK _ _ _ ?_;clear hK K;refine aC fun K hK=>?_;refine aC fun K hK=>aD (by kernel_rfl) ?_;simp (maxSteps:=4000000) only[↓sP,sA,tyS,simprocAttr];repeat refine AI ?_
 refine hK _ _ _ ?_;clear hK K;refine aO ?_;refine iZ 3 0 4 1 rfl rfl rfl rfl ?_;refine bP (α:={i:Nat//i≤S.length}) (fun i=>(fin [(0,.c (.slc (S.map Sp.cv))),(3,.own 12 i.1),(4,.c (.int .i64 i.1))],fob [(12,.row 4 1 ((cG (S.take i.1)).map bC))])) 100 (fun i=>S.length-i.1) ⟨0,by omega⟩ (aM (by omega) (by simp[aW,fin_at,finA_at,upd_at,HV.men,HV.menL,HV.norm,HV.toC,HV.toCL,cG]) (by simp[aX,fob_at,upd_at,none0_at,bI,HO.men,HV.men,HV.menL,HV.norm,HV.toC,HV.toCL,cG])) ?_;rintro⟨i,hi⟩;have hti:(cG (S.take i)).length=i:=by simp[cG];omega
 refine aC fun K hK=>?_;refine aC fun K hK=>aD (by kernel_rfl) ?_;simp only[sR,simprocAttr];iterate 4
  (refine aE (g:=none) rfl rfl fun K' hK'=>?_;simp only[sH,↓sP,sA,tyS,simprocAttr,List.length_map];(repeat refine AI ?_);refine hK' _ _ ?_;clear hK' K')
 simp only[sE,↓reduceIte,simprocAttr];repeat refine AI ?_
 refine hK _ _ _ ?_;clear hK K;refine aJ (b:=decide ((i:Int)<S.length)) rfl (fun hb=>?_) (fun hb=>?_)
 ·
  have hlt:i<S.length:=by have:=of_decide_eq_true hb;omega
  have hsn:cG (S.take (i+1))=cG (S.take i)++[S[i].h]:=by rw[List.take_succ_eq_append_getElem hlt];unfold cG;rw[List.map_append];rfl
  clear hb;refine aN ?_;simp (maxSteps:=4000000) only[↓sP,sA,tyS,simprocAttr];repeat refine AI ?_
  refine hK _ _ _ ?_;clear hK K;refine aC fun K hK=>?_;refine aO ?_;refine aD (by kernel_rfl) ?_;simp only[sR,simprocAttr];iterate 9
   (refine aE (g:=none) rfl rfl fun K' hK'=>?_;simp only[sH,↓sP,sA,tyS,simprocAttr,Int.natCast_nonneg,Int.ofNat_lt,hlt,aU hlt,hti];(repeat refine AI ?_);refine hK' _ _ ?_;clear hK' K')
  simp only[sE,↓reduceIte,simprocAttr];repeat refine AI ?_
  refine hK _ _ _ ?_;clear hK K;refine aD (by kernel_rfl) ?_;simp (maxSteps:=4000000) only[↓sP,sA,tyS,simprocAttr,IntWalk.i64_in _ (show-9223372036854775808≤(i:Int)+1∧(i:Int)+1≤9223372036854775807 by omega)];refine⟨⟨i+1,by omega⟩,(aM (by omega) (by simp[aW,fin_at,finA_at,upd_at,HV.men,HV.menL,HV.norm,HV.toC,HV.toCL,hsn,bC,hti]) (by simp[aX,fob_at,upd_at,none0_at,bI,HO.men,HV.men,HV.menL,HV.norm,HV.toC,HV.toCL,hsn,bC,hti])),?_⟩;show S.length-(i+1)<S.length-i;omega
 have hie:i=S.length:=by have:=of_decide_eq_false hb;omega
 subst hie;refine bB ?_;simp (maxSteps:=4000000) only[↓sP,sA,tyS,simprocAttr];clear hK K;repeat refine AI ?_
 refine hK _ _ _ ?_;clear hK K;refine aC fun K hK=>aD (by kernel_rfl) ?_;simp (maxSteps:=4000000) only[↓sP,sA,tyS,simprocAttr];repeat refine AI ?_
 refine hK _ _ _ ?_;clear hK K;refine aH ?_;simp (maxSteps:=4000000) only[bK,Tryz.results31,bH,bJ,bG,↓sP,sA,tyS,simprocAttr];have htl:(cG S).length=S.length:=by simp[cG]
 exact aK [12] (.slc ((cG S).map bC)) (by simp[HV.close,fob_at,upd_at,HV.norm,HV.toC,htl,List.take_length]) rfl
theorem cV2 (a n:Nat)(ob:Ob)(e:TypeId)(sz:Nat)(L:List CV):iV (sub [a] n) ob 0 [.row e sz L]=upd ob a (some (.row e sz L)):=rfl
theorem bZ7 (a n k:Nat):HV.ren (sub [a] n) (.own 0 k)= .own a k:=rfl
abbrev osL (W:List Ln):List HO:=[.row 41 4 (W.map Ln.cv)]
theorem cS7 (W:List Ln):lst (osL W)=fob [(0,.row 41 4 (W.map Ln.cv))]:=by
 funext i
 match i with
 |0=>rfl
 |i+1=>simp[lst,fob,upd]
theorem aS4 {ob:Ob}{u:HV}{W:List Ln}{R:HV→List HO→Prop}(hu:u= .own 0 W.length)(h0:ob 0=some (.row 41 4 (W.map Ln.cv)))(hR:R (.own 0 W.length) (osL W)):
  iK 1 u ob (fun r ob'=> ∃os',ob'=lst os'∧(1≤os'.length∧os'.length≤1+4)∧R r os'):=by
 subst hu;exact gN [] [] (.own 0 W.length) (osL W) rfl (by simp[HV.men]) ⟨⟨by simp[HO.men],by simp,_,h0,rfl⟩,trivial⟩ rfl List.nodup_nil (by simp) (by simp) hR
structure RvSt (l:List Nd)(S:List Sp)(g i:Nat)(W:List Ln)(j:Nat)(W':List Ln)(F:List Int):Prop where
 len:W'.length+(i+1)≤W.length+cA l j (i+1)
 out:W'=(gS l S g i j W).1
 fr:F=(gS l S g i j W).2
theorem bM6 (l:List Nd)(htb:dN l=true)(hn: ∀n∈l,n.q.t.length<2^63)(S:List Sp)(hS:S.length<2^40)(hd: ∀x∈S,x.d.length<2^42)(f:Nat): ∀(W:List Ln) (i:Nat),i<l.length→l.length-i≤f→W.length+(aft l i-i)<2^39→dB l (cG S) i=true→
  HGe Tryz.prog 40 [.c (.slc (l.map Nd.cv)),.c (.slc (S.map Sp.cv)),.c (.int .i64 i),.own 0 W.length] (osL W) (fun r os'=>r= .own 0 (prv l S f i W).length∧os'=osL (prv l S f i W)):=by
 induction f using Nat.strongRecOn with
 |ind f ih=>?_
 intro W i hi hf hW hv;refine bQ (args:=[.c (.slc (l.map Nd.cv)),.c (.slc (S.map Sp.cv)),.c (.int .i64 i),.own 0 W.length]) Tryz.func40 rfl (by kernel_rfl) (eS rfl (by simp[dL,HO.men,HV.men,HV.menL]) (by simp[HV.menL,HV.men])) (Nat.le_of_ble_eq_true rfl) ?_;show Hw _ _ 1 _ _ _ (lst _) 1;rw[cS7];have ht:=eM htb;have hll:=ht.len;have hgd:l.getD i nd0=l[i]:=rL hi;have haf:=eZ ht hi;have hTl:(cG S).length<2^63:=by unfold cG;rw[List.length_map];omega
 obtain⟨g,rfl⟩: ∃g,f=g+1:=⟨f-1,by omega⟩;refine aC fun K hK=>aD (by kernel_rfl) ?_;simp (maxSteps:=4000000) only[↓sP,sA,tyS,simprocAttr];repeat refine AI ?_
 refine hK _ _ _ ?_;clear hK K;refine aC fun K hK=>aD (by kernel_rfl) ?_;simp only[sR,simprocAttr];refine aE (g:=none) rfl rfl fun K' hK'=>?_;simp (maxSteps:=4000000) only[sH,↓sP,sA,tyS,simprocAttr,denilL_Sp];repeat refine AI ?_
 refine hK' _ _ ?_;clear hK' K';refine aE (g:=none) rfl rfl fun K' hK'=>?_;simp (maxSteps:=4000000) only[sH,↓sP,sA,tyS,simprocAttr,denilL_Sp];refine cB (args:=[_]) (aE7 S hS) ⟨rfl,rfl,rfl,rfl⟩ ?_;rintro u rfl;repeat refine AI ?_
 refine hK' _ _ ?_;clear hK' K';refine aE (g:=none) rfl rfl fun K' hK'=>?_;simp (maxSteps:=4000000) only[sH,↓sP,sA,tyS,simprocAttr,denilL_Sp];repeat refine AI ?_
 refine hK' _ _ ?_;clear hK' K';simp only[sE,↓reduceIte,simprocAttr];repeat refine AI ?_
 refine hK _ _ _ ?_;clear hK K;refine aC fun K hK=>aD (by kernel_rfl) ?_;simp only[sR,simprocAttr];iterate 6
  (refine aE (g:=none) rfl rfl fun K' hK'=>?_;simp only[sH,↓sP,sA,tyS,simprocAttr,Int.natCast_nonneg,Int.ofNat_lt,hi,aU hi];(repeat refine AI ?_);refine hK' _ _ ?_;clear hK' K')
 simp only[sE,↓reduceIte,simprocAttr];repeat refine AI ?_
 refine hK _ _ _ ?_;clear hK K;refine aC fun K hK=>?_;refine aC fun K hK=>aD (by kernel_rfl) ?_;simp (maxSteps:=4000000) only[↓sP,sA,tyS,simprocAttr];repeat refine AI ?_
 refine hK _ _ _ ?_;clear hK K;refine aJ (b:=(l[i].k==1)) rfl (fun hb=>?_) (fun hb=>?_)
 ·
  have hk:l[i].k=1:=by simpa using hb
  clear hb;have hvk:(S.getD (lv (l.take i)) sp0).h=true:=by rw[←aM6,←mH hi hk];exact hv
  obtain⟨q,hq⟩: ∃q,q=lv (l.take i):=⟨_,rfl⟩;rw[←hq]at hvk;have hqS:q<S.length:=by
   rcases Nat.lt_or_ge q S.length with h|h
   · exact h
   rw[List.getD_eq_getElem?_getD,List.getElem?_eq_none h]at hvk;cases hvk
  have hgq:S.getD q sp0=S[q]:=by rw[List.getD_eq_getElem?_getD,List.getElem?_eq_getElem hqS];rfl
  refine aC fun K hK=>aD (by kernel_rfl) ?_;simp (maxSteps:=4000000) only[↓sP,sA,tyS,simprocAttr];repeat refine AI ?_
  refine hK _ _ _ ?_;clear hK K;refine aC fun K hK=>?_;refine aC fun K hK=>aD (by kernel_rfl) ?_;simp (maxSteps:=4000000) only[↓sP,sA,tyS,simprocAttr];repeat refine AI ?_
  refine hK _ _ _ ?_;clear hK K;refine aO ?_;refine bP (α:={j:Nat//j≤i}) (fun j=>(fin [(0,.c (.slc (l.map Nd.cv))),(1,.c (.slc (S.map Sp.cv))),(2,.c (.int .i64 i)),(3,.own 0 W.length),(11,.c (.int .i64 (lv (l.take j.1):Nat))),(12,.c (.int .i64 j.1))],fob [(0,.row 41 4 (W.map Ln.cv))])) 200 (fun j=>i-j.1) ⟨0,by omega⟩ (aM (by omega) (by simp[aW,fin_at,finA_at,upd_at,HV.men,HV.menL,HV.norm,HV.toC,HV.toCL,lv]) (by simp[aX,fob_at,upd_at,none0_at,bI,HO.men,HV.men,HV.menL,HV.norm,HV.toC,HV.toCL,lv])) ?_;rintro⟨j,hj⟩;have hjv:lv (l.take j)≤j:=by have:=bA1 (l.take j);rw[List.length_take]at this;omega
  refine aC fun K hK=>?_;refine aC fun K hK=>aD (by kernel_rfl) ?_;simp (maxSteps:=4000000) only[↓sP,sA,tyS,simprocAttr];repeat refine AI ?_
  refine hK _ _ _ ?_;clear hK K;refine aJ (b:=decide ((j:Int)<i)) rfl (fun hb=>?_) (fun hb=>?_)
  ·
   have hji:j<i:=by have:=of_decide_eq_true hb;omega
   have hlt:j<l.length:=by omega
   have hsn:=vQ hlt;clear hb;refine aN ?_;simp (maxSteps:=4000000) only[↓sP,sA,tyS,simprocAttr];repeat refine AI ?_
   refine hK _ _ _ ?_;clear hK K;refine aC fun K hK=>?_;refine aO ?_;refine aC fun K hK=>aD (by kernel_rfl) ?_;simp only[sR,simprocAttr];iterate 6
    (refine aE (g:=none) rfl rfl fun K' hK'=>?_;simp only[sH,↓sP,sA,tyS,simprocAttr,Int.natCast_nonneg,Int.ofNat_lt,hlt,aU hlt];(repeat refine AI ?_);refine hK' _ _ ?_;clear hK' K')
   simp only[sE,↓reduceIte,simprocAttr];repeat refine AI ?_
   refine hK _ _ _ ?_;clear hK K;refine aJ (b:=(l[j].k==1)) rfl (fun hb=>?_) (fun hb=>?_)
   ·
    rw[if_pos (show l[j].k=1 by simpa using hb)]at hsn;have hwi:IntKind.i64.wrap ((lv (l.take j):Int)+1)=((lv (l.take (j+1)):Nat):Int):=by rw[IntWalk.i64_in _ (by omega),hsn];omega
    clear hb;refine aD (by kernel_rfl) ?_;simp (maxSteps:=4000000) only[↓sP,sA,tyS,simprocAttr,hwi];repeat refine AI ?_
    refine hK _ _ _ ?_;clear hK K;refine aD (by kernel_rfl) ?_;simp (maxSteps:=4000000) only[↓sP,sA,tyS,simprocAttr,IntWalk.i64_in _ (show-9223372036854775808≤(j:Int)+1∧(j:Int)+1≤9223372036854775807 by omega)];refine⟨⟨j+1,by omega⟩,(aM (by omega) (by simp[aW,fin_at,finA_at,upd_at,HV.men,HV.menL,HV.norm,HV.toC,HV.toCL,hsn]) (by simp[aX,fob_at,upd_at,none0_at,bI,HO.men,HV.men,HV.menL,HV.norm,HV.toC,HV.toCL,hsn])),?_⟩;show i-(j+1)<i-j;omega
   rw[if_neg (show¬l[j].k=1 by simpa using hb),Nat.add_zero]at hsn;clear hb;refine aN ?_;simp (maxSteps:=4000000) only[↓sP,sA,tyS,simprocAttr];repeat refine AI ?_
   refine hK _ _ _ ?_;clear hK K;refine aD (by kernel_rfl) ?_;simp (maxSteps:=4000000) only[↓sP,sA,tyS,simprocAttr,IntWalk.i64_in _ (show-9223372036854775808≤(j:Int)+1∧(j:Int)+1≤9223372036854775807 by omega)];refine⟨⟨j+1,by omega⟩,(aM (by omega) (by simp[aW,fin_at,finA_at,upd_at,HV.men,HV.menL,HV.norm,HV.toC,HV.toCL,hsn]) (by simp[aX,fob_at,upd_at,none0_at,bI,HO.men,HV.men,HV.menL,HV.norm,HV.toC,HV.toCL,hsn])),?_⟩;show i-(j+1)<i-j;omega
  have hji:j=i:=by have:=of_decide_eq_false hb;omega
  subst hji;clear hb;rw[←hq];have hcd: ∀v∈S[q].d.map dg,v.cells=32:=fun v hv=>by
   obtain⟨x,_,rfl⟩:=List.mem_map.1 hv;exact dg_cells x
  have hl0:=hd _ (List.getElem_mem hqS);have hl1:S[q].d.length*32≤140737488355328:=by omega
  have hl2:S[q].d.length≤maxLen:=by simp only[maxLen];omega
  refine bB ?_;simp (maxSteps:=4000000) only[↓sP,sA,tyS,simprocAttr];clear hK K;repeat refine AI ?_
  refine hK _ _ _ ?_;clear hK K;refine aC fun K hK=>cH (by kernel_rfl) ?_;simp only[sR,simprocAttr];iterate 7
   (refine aZ (g:=none) rfl rfl fun K' hK'=>?_;simp only[sH,↓sP,sA,tyS,simprocAttr,Int.natCast_nonneg,Int.ofNat_lt,hqS,aU hqS,denilL_dg];(repeat refine AI ?_);refine hK' _ _ ?_;clear hK' K')
  refine dU (g:=none) 240 rfl rfl fun K' hK'=>?_;simp (maxSteps:=4000000) only[iT,lK,sH,↓sP,sA,tyS,simprocAttr,Int.natCast_nonneg,Int.ofNat_lt,hqS,aU hqS,denilL_dg];repeat refine AI ?_
  refine dX (by first|rfl|simp) ?_;try simp (maxSteps:=4000000) only[sH,↓sP,sA,tyS,simprocAttr,Int.natCast_nonneg,Int.ofNat_lt,hqS,aU hqS,denilL_dg]
  repeat refine AI ?_
  refine hK' _ _ ?_;clear hK' K';iterate 4
   (refine aZ (g:=none) rfl rfl fun K' hK'=>?_;simp only[sH,↓sP,sA,tyS,simprocAttr,Int.natCast_nonneg,Int.ofNat_lt,hqS,aU hqS,denilL_dg];(repeat refine AI ?_);refine hK' _ _ ?_;clear hK' K')
  simp only[sE,↓reduceIte,simprocAttr];repeat refine AI ?_
  refine hK _ _ _ ?_;clear hK K;refine aH ?_;simp (maxSteps:=4000000) only[bK,Tryz.results40,bH,bJ,bG,↓sP,sA,tyS,simprocAttr];refine aS4 (W:=W++[jE l S j]) (by simp) ?_ ⟨by rw[jX (by rw[hgd];exact hk)],by rw[jX (by rw[hgd];exact hk)]⟩;have e1:jE l S j=⟨1,j,S[q].d,[]⟩:=by rw[jE,←hq,hgq]
  rw[e1];simp[fob_at,upd_at,Ln.cv]
 have hk:l[i].k≠1:=by simpa using hb
 clear hb;have hnb:=ht.node _ (List.getElem_mem hi);obtain⟨c1,c2,c3,c4⟩:=eL hnb;have hc1:=c4 hk;have hkn:l[i].k=2∨l[i].k=3∨(l[i].k=4∧1≤l[i].n):=by
  unfold cW inB at hnb;grind
 have hck:nR l i=cV l l[i].c.toNat (i+1):=oV htb hi;have hkl:(cV l l[i].c.toNat (i+1)).length=l[i].c.toNat:=iL l _ _;refine aN ?_;simp (maxSteps:=4000000) only[↓sP,sA,tyS,simprocAttr];repeat refine AI ?_
 refine hK _ _ _ ?_;clear hK K;refine aC fun K hK=>aD (by kernel_rfl) ?_;simp only[sR,simprocAttr];iterate 2
  (refine aE (g:=none) rfl rfl fun K' hK'=>?_;simp only[sH,↓sP,sA,tyS,simprocAttr,denilL_Nd];(repeat refine AI ?_);refine hK' _ _ ?_;clear hK' K')
 refine aE (g:=none) rfl rfl fun K' hK'=>?_;simp (maxSteps:=4000000) only[sH,↓sP,sA,tyS,simprocAttr,denilL_Nd];refine cB (args:=[_,_]) (aI4 l hn i) ⟨rfl,rfl,rfl,rfl⟩ ?_;rintro u rfl;rw[hck];repeat refine AI ?_
 refine hK' _ _ ?_;clear hK' K';refine aE (g:=none) rfl rfl fun K' hK'=>?_;simp (maxSteps:=4000000) only[sH,↓sP,sA,tyS,simprocAttr,denilL_Nd];repeat refine AI ?_
 refine hK' _ _ ?_;clear hK' K';simp only[sE,↓reduceIte,simprocAttr];repeat refine AI ?_
 refine hK _ _ _ ?_;clear hK K;refine aC fun K hK=>aD (by kernel_rfl) ?_;simp only[sR,simprocAttr];iterate 4
  (refine aE (g:=none) rfl rfl fun K' hK'=>?_;simp only[sH,↓sP,sA,tyS,simprocAttr];(repeat refine AI ?_);refine hK' _ _ ?_;clear hK' K')
 simp only[sE,↓reduceIte,simprocAttr];repeat refine AI ?_
 refine hK _ _ _ ?_;clear hK K;refine aC fun K hK=>aD (by kernel_rfl) ?_;simp (maxSteps:=4000000) only[↓sP,sA,tyS,simprocAttr,List.length_map,hkl];repeat refine AI ?_
 refine hK _ _ _ ?_;clear hK K;refine aC fun K hK=>?_;have key: ∀(kd w:Int) fr ob nx,kd=(if l[i].k=3 then 3 else 2)→w=(if l[i].k=3 then 1 else(l[i].c.toNat:Nat))→Fits 1 fr ob (fin [(0,.c (.slc (l.map Nd.cv))),(1,.c (.slc (S.map Sp.cv))),(2,.c (.int .i64 i)),(3,.own 0 W.length),(9,.c (.slc ((cG S).map bC))),(10,.ptr 33 0),(13,.c (.slc ((cV l l[i].c.toNat (i+1)).map iC))),(14,.ptr 77 0),(15,.c (.int .i64 w))]) (fob [(0,.row 41 4 (W.map Ln.cv)),(33,.box 89 (.c l[i].cv)),(77,.box 41 (.c (.agg [.int .i64 kd,.int .i64 i,.nils,.nils])))]) 200→K fr ob nx:=by
  rintro kd w fr ob nx hkd hw hf;refine hK _ _ _ (bO hf ?_);clear hf hK K;refine aC fun K hK=>?_;have key: ∀(kd w:Int) fr ob nx,kd=eA l[i]→w=(wantN l[i]:Nat)→Fits 1 fr ob (fin [(0,.c (.slc (l.map Nd.cv))),(1,.c (.slc (S.map Sp.cv))),(2,.c (.int .i64 i)),(3,.own 0 W.length),(9,.c (.slc ((cG S).map bC))),(13,.c (.slc ((cV l l[i].c.toNat (i+1)).map iC))),(14,.ptr 77 0),(15,.c (.int .i64 w))]) (fob [(0,.row 41 4 (W.map Ln.cv)),(77,.box 41 (.c (.agg [.int .i64 kd,.int .i64 i,.nils,.nils])))]) 300→K fr ob nx:=by
   rintro kd w fr ob nx rfl rfl hf;refine hK _ _ _ (bO hf ?_);clear hf hK K;refine aC fun K hK=>?_;have key: ∀(W':List Ln) (F:List Int) fr ob nx,RvSt l S g i W l[i].c.toNat W' F→Fits 1 fr ob (fin [(3,.own 0 W'.length),(14,.ptr 77 0)]) (fob [(0,.row 41 4 (W'.map Ln.cv)),(77,.box 41 (.agg [.c (.int .i64 (eA l[i])),.c (.int .i64 i),.c .nils,.own 304 F.length])),(304,.row 3 1 (F.map (CV.int .i64)))]) 30000→K fr ob nx:=by
    rintro W' F fr ob nx hst hf;refine hK _ _ _ (bO hf ?_);clear hf hK K;have q2:=hst.len;have q3:=hst.out;have q4:=hst.fr;rw[iM ht hi]at q2;refine fC [304] (bO (fr2:=fin [(3,.own 0 W'.length),(14,.ptr 77 0)]) (ob2:=fob [(0,.row 41 4 (W'.map Ln.cv)),(77,.box 41 (.c (Ln.cv ⟨eA l[i],i,[],F⟩)))]) (nx2:=31000) (aM (by omega) (by simp[aW,fJ,fin_at,finA_at,upd_at,fob_at,HV.close,HV.closeL,CV.denil,CV.denilL,denilL_int,HV.men,HV.menL,HV.norm,HV.toC,HV.toCL]) (by simp[aX,gZ,fob_at,upd_at,none0_at,bI,HO.close,HV.close,HV.closeL,CV.denil,Ln.cv,HO.men,HV.men,HV.menL,HV.norm,HV.toC,HV.toCL])) ?_);refine aC fun K hK=>aD (by kernel_rfl) ?_;simp only[sR,simprocAttr];iterate 5
     (refine aE (g:=none) rfl rfl fun K' hK'=>?_;simp only[sH,↓sP,sA,tyS,simprocAttr];(repeat refine AI ?_);refine hK' _ _ ?_;clear hK' K')
    simp only[sE,↓reduceIte,simprocAttr];repeat refine AI ?_
    refine hK _ _ _ ?_;clear hK K;refine aH ?_;simp (maxSteps:=4000000) only[bK,Tryz.results40,bH,bJ,bG,↓sP,sA,tyS,simprocAttr];have hpi:=lQ (l:=l) (S:=S) (f:=g) (i:=i) (out:=W) (by rw[hgd];exact hk);rw[hgd,←q3,←q4]at hpi;refine aS4 (W:=W'++[⟨eA l[i],i,[],F⟩]) (by simp) (by simp[fob_at,upd_at]) ⟨by rw[hpi],by rw[hpi]⟩
   refine aC fun K hK=>aD (by kernel_rfl) ?_;simp (maxSteps:=4000000) only[↓sP,sA,tyS,simprocAttr];repeat refine AI ?_
   refine hK _ _ _ ?_;clear hK K;refine aO ?_;refine dP 77 3 3 1 rfl rfl rfl rfl ?_;refine bP (α:={y:Nat×List Ln×List Int//y.1≤l[i].c.toNat∧RvSt l S g i W y.1 y.2.1 y.2.2}) (fun y=>(fin [(0,.c (.slc (l.map Nd.cv))),(1,.c (.slc (S.map Sp.cv))),(2,.c (.int .i64 i)),(3,.own 0 y.1.2.1.length),(9,.c (.slc ((cG S).map bC))),(13,.c (.slc ((cV l l[i].c.toNat (i+1)).map iC))),(14,.ptr 77 0),(15,.c (.int .i64 (wantN l[i]:Nat))),(16,.c (.int .i64 y.1.1))],fob [(0,.row 41 4 (y.1.2.1.map Ln.cv)),(77,.box 41 (.agg [.c (.int .i64 (eA l[i])),.c (.int .i64 i),.c .nils,.own 304 y.1.2.2.length])),(304,.row 3 1 (y.1.2.2.map (CV.int .i64)))])) 20000 (fun y=>l[i].c.toNat-y.1.1) ⟨(0,W,[]),Nat.zero_le _,⟨by simp[cA],by rw[lP],by rw[lP]⟩⟩ (aM (by omega) (by simp[aW,fin_at,finA_at,upd_at,HV.men,HV.menL,HV.norm,HV.toC,HV.toCL]) (by simp[aX,fob_at,upd_at,none0_at,bI,HO.men,HV.men,HV.menL,HV.norm,HV.toC,HV.toCL])) ?_;rintro⟨⟨j,W',F⟩,hj,hst⟩;simp only at hj hst⊢;have q2:=hst.len;have q3:=hst.out;have q4:=hst.fr;have hkf:=oX ht hi hj;have hF0:=rK l S g i W j;rw[←q4,hgd]at hF0;refine aC fun K hK=>?_;by_cases hjc:j<l[i].c.toNat
   ·
    have hjd:decide ((j:Int)<(l[i].c.toNat:Nat))=true:=decide_eq_true (by omega);refine aC fun K hK=>aD (by kernel_rfl) ?_;simp only[sR,simprocAttr];iterate 5
     (refine aE (g:=none) rfl rfl fun K' hK'=>?_;simp only[sH,↓sP,sA,tyS,simprocAttr,List.length_map,hkl,hjd];(repeat refine AI ?_);refine hK' _ _ ?_;clear hK' K')
    iterate 5
     (refine aE (g:=some (71,true)) rfl rfl fun K' hK'=>?_;simp only[sH,↓sP,sA,tyS,simprocAttr,List.length_map,hkl,hjd];(repeat refine AI ?_);refine hK' _ _ ?_;clear hK' K')
    refine aE (g:=none) rfl rfl fun K' hK'=>?_;simp (maxSteps:=4000000) only[sH,↓sP,sA,tyS,simprocAttr,List.length_map,hkl,hjd];repeat refine AI ?_
    refine hK' _ _ ?_;clear hK' K';simp only[sE,↓reduceIte,simprocAttr];repeat refine AI ?_
    refine hK _ _ _ ?_;clear hK K;refine aJ (b:=decide ((F.length:Int)<(wantN l[i]:Nat))) rfl (fun hb=>?_) (fun hb=>?_)
    ·
     have hfl:F.length<wantN l[i]:=by have:=of_decide_eq_true hb;omega
     have hltk:j<(cV l l[i].c.toNat (i+1)).length:=by rw[hkl];exact hjc
     have hel:(cV l l[i].c.toNat (i+1))[j]=cA l j (i+1):=by
      have h1:=jW l l[i].c.toNat (i+1) (j+1) hjc;rw[fT,List.take_succ_eq_append_getElem hltk,jW l _ _ _ hj]at h1;simpa using h1
     clear hb;have hkb:=gK ht hi hjc;have hks:=fU ht hi j (by omega);have hka:=eZ ht hkb;have hkn2:=oX ht hi (j:=j+1) (by omega);rw[cI]at hkn2;have hF1:=aI8 (l:=l) (S:=S) (f:=g) (i:=i) (out:=W) j;rw[←q4]at hF1;have hF2:F.length+1≤maxLen:=by simp only[maxLen];omega
     have hF3:(F.length+1)*8≤140737488355328:=by omega
     refine aN ?_;simp (maxSteps:=4000000) only[↓sP,sA,tyS,simprocAttr];repeat refine AI ?_
     refine hK _ _ _ ?_;clear hK K;refine aC fun K hK=>?_;refine aO ?_;refine aC fun K hK=>aD (by kernel_rfl) ?_;simp only[sR,simprocAttr];iterate 6
      (refine aE (g:=none) rfl rfl fun K' hK'=>?_;simp only[sH,↓sP,sA,tyS,simprocAttr,Int.natCast_nonneg,Int.ofNat_lt,hltk,aU hltk,hel,iC,denilL_Nd,dM];(repeat refine AI ?_);refine hK' _ _ ?_;clear hK' K')
     refine aE (g:=none) rfl rfl fun K' hK'=>?_;simp (maxSteps:=4000000) only[sH,↓sP,sA,tyS,simprocAttr,Int.natCast_nonneg,Int.ofNat_lt,hltk,aU hltk,hel,iC,denilL_Nd,dM];refine cB (args:=[_,_,_]) (tZ l ht (cG S) hTl g (cA l j (i+1)) hkb (by omega)) ⟨rfl,rfl,rfl,rfl⟩ ?_;rintro u rfl;repeat refine AI ?_
     refine hK' _ _ ?_;clear hK' K';simp only[sE,↓reduceIte,simprocAttr];repeat refine AI ?_
     refine hK _ _ _ ?_;clear hK K;refine aJ (b:=dB l (cG S) (cA l j (i+1))) rfl (fun hb=>?_) (fun hb=>?_)
     ·
      have hkv:dB l (cG S) (cA l j (i+1))=true:=hb;have hP:gS l S g i (j+1) W=(prv l S g (cA l j (i+1)) W',F++[((prv l S g (cA l j (i+1)) W').length:Int)-1]):=by
       rw[eH,mW,←q3,←q4,if_pos ⟨by rw[hgd];exact hfl,hkv⟩]
      have hPl:=vO ht S g (cA l j (i+1)) W' hkb;obtain⟨M,hM⟩: ∃M,M=prv l S g (cA l j (i+1)) W':=⟨_,rfl⟩;clear hb;refine aC fun K hK=>aD (by kernel_rfl) ?_;simp only[sR,simprocAttr];iterate 7
       (refine aE (g:=none) rfl rfl fun K' hK'=>?_;simp only[sH,↓sP,sA,tyS,simprocAttr,Int.natCast_nonneg,Int.ofNat_lt,hltk,aU hltk,hel,iC,denilL_Nd,denilL_Sp];(repeat refine AI ?_);refine hK' _ _ ?_;clear hK' K')
      refine aE (g:=none) rfl rfl fun K' hK'=>?_;simp (maxSteps:=4000000) only[sH,↓sP,sA,tyS,simprocAttr,Int.natCast_nonneg,Int.ofNat_lt,hltk,aU hltk,hel,iC,denilL_Nd,denilL_Sp];refine eQ [0] (ih g (by omega) W' (cA l j (i+1)) hkb (by omega) (by omega) hkv) rfl ⟨rfl,trivial⟩ (by simp) (by simp) ⟨rfl,rfl,rfl,rfl⟩ (by simp[dL,HO.men,HV.men,HV.menL]) (by simp[HV.menL,HV.men]) ?_;rintro r os' ⟨rfl,rfl⟩;rw[cV2,bZ7,←hM];repeat refine AI ?_
      refine hK' _ _ ?_;clear hK' K';refine aE (g:=none) rfl rfl fun K' hK'=>?_;simp (maxSteps:=4000000) only[sH,↓sP,sA,tyS,simprocAttr,Int.natCast_nonneg,Int.ofNat_lt,hltk,aU hltk,hel,iC,denilL_Nd,denilL_Sp];repeat refine AI ?_
      refine hK' _ _ ?_;clear hK' K';simp only[sE,↓reduceIte,simprocAttr];repeat refine AI ?_
      refine hK _ _ _ ?_;clear hK K;have hMp:0<M.length:=by
       rw[hM];obtain⟨g',rfl⟩: ∃g',g=g'+1:=⟨g-1,by omega⟩;rw[prv];split<;>simp
      rw[←hM]at hPl hP;have hwM:IntKind.i64.wrap ((M.length:Int)-1)=(M.length:Int)-1:=IntWalk.i64_in _ (by omega);refine aD (by kernel_rfl) ?_;simp only[sR,simprocAttr];iterate 9
       (refine aE (g:=none) rfl rfl fun K' hK'=>?_;simp only[sH,↓sP,sA,tyS,simprocAttr,List.length_map,hwM,hF2,hF3];(repeat refine AI ?_);refine hK' _ _ ?_;clear hK' K')
      simp only[sE,↓reduceIte,simprocAttr];repeat refine AI ?_
      refine hK _ _ _ ?_;clear hK K;refine aD (by kernel_rfl) ?_;simp (maxSteps:=4000000) only[↓sP,sA,tyS,simprocAttr,IntWalk.i64_in _ (show-9223372036854775808≤(j:Int)+1∧(j:Int)+1≤9223372036854775807 by omega)];refine⟨⟨(j+1,M,F++[(M.length:Int)-1]),hjc,⟨?_,by rw[hP],by rw[hP]⟩⟩,(aM (by omega) (by simp[aW,fin_at,finA_at,upd_at,HV.men,HV.menL,HV.norm,HV.toC,HV.toCL,List.map_append,List.length_append]) (by simp[aX,fob_at,upd_at,none0_at,bI,HO.men,HV.men,HV.menL,HV.norm,HV.toC,HV.toCL,List.map_append,List.length_append])),?_⟩
      · show M.length+(i+1)≤W.length+cA l (j+1) (i+1);rw[cI];omega
      show l[i].c.toNat-(j+1)<l[i].c.toNat-j;omega
     have hkv:dB l (cG S) (cA l j (i+1))=false:=hb;clear hb;refine aN ?_;simp (maxSteps:=4000000) only[↓sP,sA,tyS,simprocAttr];repeat refine AI ?_
     refine hK _ _ _ ?_;clear hK K;refine aD (by kernel_rfl) ?_;simp (maxSteps:=4000000) only[↓sP,sA,tyS,simprocAttr,IntWalk.i64_in _ (show-9223372036854775808≤(j:Int)+1∧(j:Int)+1≤9223372036854775807 by omega)];refine⟨⟨(j+1,W',F),hjc,⟨?_,?_,?_⟩⟩,aM (by omega) (by simp[aW,fin_at,finA_at,upd_at,HV.men,HV.menL,HV.norm,HV.toC,HV.toCL]) (by simp[aX,fob_at,upd_at,none0_at,bI,HO.men,HV.men,HV.menL,HV.norm,HV.toC,HV.toCL]),?_⟩
     · show W'.length+(i+1)≤W.length+cA l (j+1) (i+1);rw[cI];omega
     · rw[eH,mW,if_neg (fun hc=>by rw[hkv]at hc;cases hc.2)];exact q3
     · rw[eH,mW,if_neg (fun hc=>by rw[hkv]at hc;cases hc.2)];exact q4
     show l[i].c.toNat-(j+1)<l[i].c.toNat-j;omega
    refine bB ?_;simp (maxSteps:=4000000) only[↓sP,sA,tyS,simprocAttr];clear hK K;have hfl:F.length=wantN l[i]:=by have:=of_decide_eq_false hb;omega
    have hsp:=uB (l:=l) (S:=S) (g:=g) (i:=i) (out:=W) (j:=j) (l[i].c.toNat-j) (by rw[←q4,hgd];exact hfl);rw[show j+(l[i].c.toNat-j)=l[i].c.toNat from by omega]at hsp;refine key W' F _ _ _ ⟨?_,by rw[hsp];exact q3,by rw[hsp];exact q4⟩ (aM (by omega) (by simp[aW,fin_at,finA_at,upd_at,HV.men,HV.menL,HV.norm,HV.toC,HV.toCL]) (by simp[aX,fob_at,upd_at,none0_at,bI,HO.men,HV.men,HV.menL,HV.norm,HV.toC,HV.toCL]));rw[iM ht hi];omega
   have hjd:decide ((j:Int)<(l[i].c.toNat:Nat))=false:=decide_eq_false (by omega);have hje:j=l[i].c.toNat:=by omega
   subst hje;refine aC fun K hK=>aD (by kernel_rfl) ?_;simp only[sR,simprocAttr];iterate 5
    (refine aE (g:=none) rfl rfl fun K' hK'=>?_;simp only[sH,↓sP,sA,tyS,simprocAttr,List.length_map,hkl,hjd];(repeat refine AI ?_);refine hK' _ _ ?_;clear hK' K')
   iterate 5
    (refine aE (g:=some (71,true)) rfl rfl fun K' hK'=>?_;simp only[sH,↓sP,sA,tyS,simprocAttr,List.length_map,hkl,hjd];(repeat refine AI ?_);refine hK' _ _ ?_;clear hK' K')
   refine aE (g:=none) rfl rfl fun K' hK'=>?_;simp (maxSteps:=4000000) only[sH,↓sP,sA,tyS,simprocAttr,List.length_map,hkl,hjd];repeat refine AI ?_
   refine hK' _ _ ?_;clear hK' K';simp only[sE,↓reduceIte,simprocAttr];repeat refine AI ?_
   refine hK _ _ _ ?_;clear hK K;refine aJ (b:=false) rfl (fun hb=>?_) (fun hb=>?_)
   · cases hb
   refine bB ?_;simp (maxSteps:=4000000) only[↓sP,sA,tyS,simprocAttr];clear hK K;exact key W' F _ _ _ hst (aM (by omega) (by simp[aW,fin_at,finA_at,upd_at,HV.men,HV.menL,HV.norm,HV.toC,HV.toCL]) (by simp[aX,fob_at,upd_at,none0_at,bI,HO.men,HV.men,HV.menL,HV.norm,HV.toC,HV.toCL]))
  refine aC fun K hK=>aD (by kernel_rfl) ?_;simp (maxSteps:=4000000) only[↓sP,sA,tyS,simprocAttr];repeat refine AI ?_
  refine hK _ _ _ ?_;clear hK K;refine aJ (b:=(l[i].k==4)) rfl (fun hb=>?_) (fun hb=>?_)
  ·
   refine lL mixed [(0,[],[]),(1,[],[]),(2,[],[]),(3,[],[0,1]),(4,[],[])] [0,1,0,4,15] (by kernel_rfl) (by kernel_rfl) (by kernel_rfl) (by kernel_rfl) rfl (by kernel_rfl) ?_;iterate 5
    (refine aV (g:=none) rfl rfl fun K' hK'=>?_;simp only[sH,↓sP,sA,tyS,simprocAttr];(repeat refine AI ?_);refine hK' _ _ ?_;clear hK' K')
   simp only[sE,↓reduceIte,simprocAttr];have h4:l[i].k=4:=by simpa using hb
   have h5:1≤l[i].n:=by omega
   exact key 4 l[i].n _ _ _ (by unfold eA;rw[if_neg (by omega),if_neg (by omega)]) (by unfold wantN;rw[if_neg (by omega),if_neg (by omega)];omega) (aM (by omega) (by simp[aW,fin_at,finA_at,upd_at,HV.men,HV.menL,HV.norm,HV.toC,HV.toCL]) (by simp[aX,fob_at,upd_at,none0_at,bI,HO.men,HV.men,HV.menL,HV.norm,HV.toC,HV.toCL]))
  refine aN ?_;simp (maxSteps:=4000000) only[↓sP,sA,tyS,simprocAttr];have h4:l[i].k≠4:=by simpa using hb
  refine key kd w _ _ _ ?_ ?_ (aM (by omega) (by simp[aW,fin_at,finA_at,upd_at,HV.men,HV.menL,HV.norm,HV.toC,HV.toCL]) (by simp[aX,fob_at,upd_at,none0_at,bI,HO.men,HV.men,HV.menL,HV.norm,HV.toC,HV.toCL]))
  ·
   rw[hkd];unfold eA;split
   · rw[if_neg (by omega)]
   rw[if_pos (by omega)]
  rw[hw];unfold wantN;split
  · rw[if_neg (by omega)]
  rw[if_pos (by omega)]
 refine aC fun K hK=>aD (by kernel_rfl) ?_;simp (maxSteps:=4000000) only[↓sP,sA,tyS,simprocAttr];repeat refine AI ?_
 refine hK _ _ _ ?_;clear hK K;refine aJ (b:=(l[i].k==3)) rfl (fun hb=>?_) (fun hb=>?_)
 ·
  refine aD (by kernel_rfl) ?_;simp (maxSteps:=4000000) only[↓sP,sA,tyS,simprocAttr];have h3:l[i].k=3:=by simpa using hb
  exact key 3 1 _ _ _ (by rw[if_pos h3]) (by rw[if_pos h3];rfl) (aM (by omega) (by simp[aW,fin_at,finA_at,upd_at,HV.men,HV.menL,HV.norm,HV.toC,HV.toCL]) (by simp[aX,fob_at,upd_at,none0_at,bI,HO.men,HV.men,HV.menL,HV.norm,HV.toC,HV.toCL]))
 refine aN ?_;simp (maxSteps:=4000000) only[↓sP,sA,tyS,simprocAttr];have h3:l[i].k≠3:=by simpa using hb
 exact key 2 (l[i].c.toNat:Nat) _ _ _ (by rw[if_neg h3]) (by rw[if_neg h3]) (aM (by omega) (by simp[aW,fin_at,finA_at,upd_at,HV.men,HV.menL,HV.norm,HV.toC,HV.toCL]) (by simp[aX,fob_at,upd_at,none0_at,bI,HO.men,HV.men,HV.menL,HV.norm,HV.toC,HV.toCL]))
end Go.Proofs.YthedbjfipmkpiaaGreatDoor
namespace Go.Hl
open Go
theorem aE8 {w:World}{ρ ρ1:Env}{O:Nat→Prop}(h1:ρ1 0=some (.hdr (.slice none 0 0))): ∀{pre:List CV} {xs:List Value},RepHV w ρ O (pre.map .c++[.c .nils]) xs→RepHV w ρ1 O (pre.map .c++[.own 0 0]) xs
 |[],xs,h=>by
  simp only[List.map_nil,List.nil_append]at h⊢;rw[bM]at h⊢;obtain⟨y,ys,rfl,hy,hz⟩:=h;refine⟨y,ys,rfl,?_,by simpa only[RepHV]using hz⟩;have hag:Value.isAgg' y=false:=by rw[←hy.2];rfl
  have hc:=hy.1;rw[cells_single hag]at hc;simp only[RepH,RepC,List.cons.injEq,and_true]at hc;subst hc;refine cP ?_ rfl rfl;simp only[RepH];exact⟨_,rfl,by simp[Value.oneCell'],fun hd hρ=>by rw[h1]at hρ;cases hρ;exact⟨by simp[hlen],fun _=>rfl⟩⟩
 |v::pre,xs,h=>by
  simp only[List.map_cons,List.cons_append]at h⊢;rw[bM]at h⊢;obtain⟨y,ys,rfl,hy,hz⟩:=h;refine⟨y,ys,rfl,⟨?_,hy.2⟩,aE8 h1 hz⟩;have:=hy.1;simp only[RepH]at this⊢;exact this
theorem cI2 {P:Program}{f:FuncId}{pre:List CV}{e:TypeId}{sz:Nat}{R:HV→List HO→Prop}(h:HGe P f (pre.map .c++[.own 0 0]) [.row e sz []] R)(hR: ∀r os',R r os'→r.men (· <4)∧os'.length≤4∧ ∀o∈os',o.men (· <4)):HGe P f (pre.map .c++[.c .nils]) [] R:=by
 refine⟨h.1,fun w ρ X xs hS hA hX=>?_⟩;have hρ: ∀id,ρ id=none:=fun id=>hS.none id (by simp[lst])
 let ρ1:Env:=fun id=>if id=0 then some (.hdr (.slice none 0 0))else none
 have hr0:ρ1 0=some (.hdr (.slice none 0 0)):=rfl;have ho0:Own ρ=fun _=>False:=by
  funext b;apply propext;exact⟨fun⟨i,L,h1,_⟩=>(by rw[hρ i]at h1;cases h1),fun h=>False.elim h⟩
 have ho1:Own ρ1=fun _=>False:=by
  funext b;apply propext;refine⟨fun⟨i,L,h1,h2⟩=>?_,fun h=>False.elim h⟩;by_cases e:i=0
  · subst e;rw[hr0]at h1;cases h1;cases h2
  · simp only[ρ1,if_neg e]at h1;cases h1
 have hO:Owned ρ1 X=Owned ρ X:=by
  funext b;apply propext;show X b∨Own ρ1 b↔X b∨Own ρ b;rw[ho0,ho1]
 have hS1:RepS w ρ1 X (lst [.row e sz []]):=by
  refine⟨fun i o ho=>?_,fun i hi=>?_,fun i i' L L' b h1 h2 h3 h4=>?_,fun i L b h1 h2=>?_⟩
  ·
   match i with
   |0=>cases ho;exact⟨.slice none 0 0,[],hr0,by simp[RepL],by simp,ownsRow_nil⟩
   |i+1=>simp[lst]at ho
  ·
   match i with
   |0=>simp[lst]at hi
   |i+1=>rfl
  ·
   by_cases e:i=0
   · subst e;rw[hr0]at h1;cases h1;cases h3
   · simp only[ρ1,if_neg e]at h1;cases h1
  ·
   by_cases e:i=0
   · subst e;rw[hr0]at h1;cases h1;cases h2
   · simp only[ρ1,if_neg e]at h1;cases h1
 refine(h.2 w ρ1 X xs hS1 (by rw[hO];exact aE8 hr0 hA) hX).mono fun e' w' ⟨r,ob',ρ',x,e1,⟨os',h1,h2,h3⟩,g⟩=>⟨r,ob',ρ',x,e1,⟨os',h1,⟨Nat.zero_le _,by have:=(hR r os' h3).2.1;simpa using this⟩,h3⟩,⟨g.v,g.s,(hR r os' h3).1,fun id o ho=>?_,?_,?_⟩⟩
 · subst h1;obtain⟨_,a2,a3⟩:=hR r os' h3;have h5:=aV4 ho;exact⟨by simp only[List.length_nil];omega,a3 _ (List.mem_of_getElem? ho)⟩
 · have:=g.stay;rw[ho1]at this;rw[ho0];exact this
 · exact fun id L' hid _=>absurd hid (Nat.not_lt_zero id)
end Go.Hl
namespace Go.Proofs.YthedbjfipmkpiaaGreatDoor
open Go Go.Hl Go.Pl
set_option maxRecDepth 10000
set_option maxHeartbeats 16000000
theorem bM7 (l:List Nd)(hn: ∀n∈l,n.q.t.length<2^63)(S:List Sp)(hS:S.length<2^40)(hd: ∀x∈S,x.d.length<2^42):iA Tryz.prog 15 [.slc (l.map Nd.cv),.slc (S.map Sp.cv)] (fun u v=>u= .slc ((eG l S).map Ln.cv)∧v= .bool (eD l (cG S))):=by
 have hTl:(cG S).length<2^63:=by unfold cG;rw[List.length_map];omega
 refine bQ Tryz.func15 rfl (by kernel_rfl) (cR _) (Nat.le_of_ble_eq_true rfl) ?_;refine aC fun K hK=>aD (by kernel_rfl) ?_;simp (maxSteps:=4000000) only[↓sP,sA,tyS,simprocAttr];repeat refine AI ?_
 refine hK _ _ _ ?_;clear hK K;refine aC fun K hK=>?_;refine aC fun K hK=>aD (by kernel_rfl) ?_;simp only[sR,simprocAttr];iterate 2
  (refine aE (g:=none) rfl rfl fun K' hK'=>?_;simp only[sH,↓sP,sA,tyS,simprocAttr,denilL_Sp,denilL_Nd,dM];(repeat refine AI ?_);refine hK' _ _ ?_;clear hK' K')
 refine aE (g:=none) rfl rfl fun K' hK'=>?_;simp (maxSteps:=4000000) only[sH,↓sP,sA,tyS,simprocAttr,denilL_Sp,denilL_Nd,dM];refine cB (args:=[_]) (aE7 S hS) ⟨rfl,rfl,rfl,rfl⟩ ?_;rintro u rfl;repeat refine AI ?_
 refine hK' _ _ ?_;clear hK' K';refine aE (g:=none) rfl rfl fun K' hK'=>?_;simp (maxSteps:=4000000) only[sH,↓sP,sA,tyS,simprocAttr,denilL_Sp,denilL_Nd,dM];refine cB (args:=[_,_]) (bY3 l hn (cG S) hTl) ⟨rfl,rfl,rfl,rfl⟩ ?_;rintro u rfl;repeat refine AI ?_
 refine hK' _ _ ?_;clear hK' K';refine aE (g:=none) rfl rfl fun K' hK'=>?_;simp (maxSteps:=4000000) only[sH,↓sP,sA,tyS,simprocAttr,denilL_Sp,denilL_Nd,dM];repeat refine AI ?_
 refine hK' _ _ ?_;clear hK' K';simp only[sE,↓reduceIte,simprocAttr];repeat refine AI ?_
 refine hK _ _ _ ?_;clear hK K;refine aJ (b:=!eD l (cG S)) rfl (fun hb=>?_) (fun hb=>?_)
 ·
  refine aC fun K hK=>aD (by kernel_rfl) ?_;simp (maxSteps:=4000000) only[↓sP,sA,tyS,simprocAttr];repeat refine AI ?_
  refine hK _ _ _ ?_;clear hK K;refine aH ?_;simp (maxSteps:=4000000) only[bK,Tryz.results15,bH,bJ,bG,↓sP,sA,tyS,simprocAttr];have hev:eD l (cG S)=false:=by simpa using hb
  exact bF [] (.slc []) (.bool false) (by simp[HV.close,HV.closeL,CV.denil,CV.denilL,HV.norm,HV.toC,HV.toCL]) ⟨by rw[eG,hev];rfl,by rw[hev]⟩
 have hev:eD l (cG S)=true:=by simpa using hb
 clear hb;have htb:dN l=true:=by
  unfold eD at hev;rw[Bool.and_eq_true]at hev;exact hev.1
 have hv:dB l (cG S) 0=true:=by
  unfold eD at hev;rw[Bool.and_eq_true]at hev;exact hev.2
 have ht:=eM htb;have hlen:=ht.len;have hne:0<l.length:=ht.ne;have haf:=(eZ ht hne).2.1;have hpl:=(vO ht S l.length 0 [] hne).2;simp only[List.length_nil]at hpl;have hp0:0<(nS l S).length:=by
  obtain⟨g,hg⟩: ∃g,l.length=g+1:=⟨l.length-1,by omega⟩;unfold nS;rw[hg,prv];split<;>simp
 have hG:=cI2 (P:=Tryz.prog) (pre:=[.slc (l.map Nd.cv),.slc (S.map Sp.cv),.int .i64 0]) (bM6 l htb hn S hS hd l.length [] 0 hne (by omega) (by simp only[List.length_nil];omega) hv) (fun r os' h=>by
  obtain⟨rfl,rfl⟩:=h;exact⟨by simp[HV.men],by simp,fun o ho=>by rw[List.mem_singleton.1 ho];trivial⟩)
 obtain⟨Q,hQ⟩: ∃Q,Q=nS l S:=⟨_,rfl⟩;have hQ':prv l S l.length 0 []=Q:=hQ.symm;rw[←hQ]at hp0;rw[hQ']at hpl hG;have hwq:IntKind.i64.wrap ((Q.length:Int)-1)=(Q.length:Int)-1:=IntWalk.i64_in _ (by omega);refine aN ?_;simp (maxSteps:=4000000) only[↓sP,sA,tyS,simprocAttr];repeat refine AI ?_
 refine hK _ _ _ ?_;clear hK K;refine aC fun K hK=>cH (by kernel_rfl) ?_;simp only[sR,simprocAttr];iterate 2
  (refine aZ (g:=none) rfl rfl fun K' hK'=>?_;simp only[sH,↓sP,sA,tyS,simprocAttr,denilL_Sp,denilL_Nd];(repeat refine AI ?_);refine hK' _ _ ?_;clear hK' K')
 refine uP (g:=none) rfl rfl fun K' hK'=>?_;simp (maxSteps:=4000000) only[sN,↓hopH.eq_def,sH,↓sP,sA,tyS,simprocAttr,denilL_Sp,denilL_Nd];refine eQ [] hG rfl trivial (by simp) (by simp) ⟨rfl,rfl,rfl,rfl⟩ (by simp[dL]) (by simp[HV.menL,HV.men]) ?_;rintro r os' ⟨rfl,rfl⟩;rw[show∀(n:Nat) (ob:Ob),iV (sub [] n) ob 0 (osL Q)=upd ob n (some (.row 41 4 (Q.map Ln.cv)))from fun _ _=>rfl,show∀n:Nat,HV.ren (sub [] n) (.own 0 Q.length)= .own n Q.length from fun _=>rfl];repeat refine AI ?_
 refine hK' _ _ ?_;clear hK' K';refine aZ (g:=none) rfl rfl fun K' hK'=>?_;simp (maxSteps:=4000000) only[sH,↓sP,sA,tyS,simprocAttr,denilL_Sp,denilL_Nd];repeat refine AI ?_
 refine hK' _ _ ?_;clear hK' K';simp only[sE,↓reduceIte,simprocAttr];repeat refine AI ?_
 refine hK _ _ _ ?_;clear hK K;refine aC fun K hK=>cH (by kernel_rfl) ?_;simp only[sR,simprocAttr];iterate 4
  (refine aZ (g:=none) rfl rfl fun K' hK'=>?_;simp only[sH,↓sP,sA,tyS,simprocAttr,List.length_map,hwq];(repeat refine AI ?_);refine hK' _ _ ?_;clear hK' K')
 refine dU (g:=none) 60 rfl rfl fun K' hK'=>?_;simp (maxSteps:=4000000) only[iT,lK,sH,↓sP,sA,tyS,simprocAttr,List.length_map,hwq];repeat refine AI ?_
 refine dX (by first|rfl|simp) ?_;try simp (maxSteps:=4000000) only[sH,↓sP,sA,tyS,simprocAttr,List.length_map,hwq]
 repeat refine AI ?_
 refine hK' _ _ ?_;clear hK' K';iterate 5
  (refine aZ (g:=none) rfl rfl fun K' hK'=>?_;simp only[sH,↓sP,sA,tyS,simprocAttr,List.length_map,hwq];(repeat refine AI ?_);refine hK' _ _ ?_;clear hK' K')
 simp only[sE,↓reduceIte,simprocAttr];repeat refine AI ?_
 refine hK _ _ _ ?_;clear hK K;refine aH ?_;simp (maxSteps:=4000000) only[bK,Tryz.results15,bH,bJ,bG,↓sP,sA,tyS,simprocAttr];refine bF [36] (.slc ((eG l S).map Ln.cv)) (.bool true) ?_ ⟨rfl,by rw[hev]⟩;rw[eG,if_pos hev,←hQ];simp[HV.close,HV.closeL,fob_at,upd_at,CV.denil,HV.norm,HV.toC,HV.toCL,Ln.cv]
theorem bZ8 {l:List Nd}{S:List Sp}: ∀x∈eG l S,x.f.length≤l.length+1:=fun x hx=>by
 cases h:eD l (cG S)with
 |false=>rw[tW h]at hx;cases hx
 |true=>
  have h1:=cF2 hx;have h2:=(aH8 h).size;have h3:=yJ (l:=l) (S:=S);omega
theorem bM8 (L:List Int)(R:List Sp)(wild:Bool)(hR: ∀x∈R,x.d.length<2^42)(hRl:R.length<2^62):qA Tryz.prog 3 tabs [.slc (L.map (.int .i64)),.slc (R.map Sp.cv),.bool wild] (fun v=>v= .bool true):=by
 refine bQ (args:=[.c (.slc (L.map (.int .i64))),.c (.slc (R.map Sp.cv)),.c (.bool wild)]) Tryz.func3 rfl (by kernel_rfl) (gA tabs [.slc (L.map (.int .i64)),.slc (R.map Sp.cv),.bool wild]) (Nat.le_of_ble_eq_true rfl) ?_;unfold fV;refine aC fun K hK=>aD (by kernel_rfl) ?_;simp (maxSteps:=4000000) only[↓sP,sA,tyS,simprocAttr];repeat refine AI ?_
 refine hK _ _ _ ?_;clear hK K;refine aC fun K hK=>aD (by kernel_rfl) ?_;simp only[sR,simprocAttr];refine aE (g:=none) rfl rfl fun K' hK'=>?_;simp (maxSteps:=4000000) only[sH,↓sP,sA,tyS,simprocAttr,denilL_int];repeat refine AI ?_
 refine hK' _ _ ?_;clear hK' K';refine aE (g:=none) rfl rfl fun K' hK'=>?_;simp (maxSteps:=4000000) only[sH,↓sP,sA,tyS,simprocAttr,denilL_int];refine eQ [] (cH8 L 150) rfl trivial (by simp) (by simp) ⟨rfl,rfl,rfl,rfl⟩ (by simp[dL]) (by simp[HV.menL,HV.men]) ?_;rintro r os' ⟨rfl,rfl⟩;rw[bZ4,bM3];repeat refine AI ?_
 refine hK' _ _ ?_;clear hK' K';refine aE (g:=none) rfl rfl fun K' hK'=>?_;simp (maxSteps:=4000000) only[sH,↓sP,sA,tyS,simprocAttr,denilL_int];repeat refine AI ?_
 refine hK' _ _ ?_;clear hK' K';simp only[sE,↓reduceIte,simprocAttr];repeat refine AI ?_
 refine hK _ _ _ ?_;clear hK K;refine aC fun K hK=>aD (by kernel_rfl) ?_;simp only[sR,simprocAttr];refine aE (g:=none) rfl rfl fun K' hK'=>?_;simp (maxSteps:=4000000) only[sH,↓sP,sA,tyS,simprocAttr];repeat refine AI ?_
 refine hK' _ _ ?_;clear hK' K';refine aE (g:=none) rfl rfl fun K' hK'=>?_;simp (maxSteps:=4000000) only[sH,↓sP,sA,tyS,simprocAttr];refine cN (args:=[]) (bM5 (L.take 150) 0 (by omega)) rfl (by simp) ⟨rfl,rfl,rfl,rfl⟩ ?_;rintro u v' ⟨T,a',rfl,rfl,hT,ha'⟩;have hI:=cF4 hT;have hN:=aE0 hI;have h40:=cF8 hT;have hlv:(dE T).length≤16:=by rw[kH (aQ2 hI),fZ];exact hI.lv
 repeat refine AI ?_
 refine hK' _ _ ?_;clear hK' K';refine aE (g:=none) rfl rfl fun K' hK'=>?_;simp (maxSteps:=4000000) only[sH,↓sP,sA,tyS,simprocAttr];repeat refine AI ?_
 refine hK' _ _ ?_;clear hK' K';simp only[sE,↓reduceIte,simprocAttr];repeat refine AI ?_
 refine hK _ _ _ ?_;clear hK K;refine aC fun K hK=>aD (by kernel_rfl) ?_;simp only[sR,simprocAttr];iterate 3
  (refine aE (g:=none) rfl rfl fun K' hK'=>?_;simp only[sH,↓sP,sA,tyS,simprocAttr,denilL_Nd];(repeat refine AI ?_);refine hK' _ _ ?_;clear hK' K')
 refine aE (g:=none) rfl rfl fun K' hK'=>?_;simp (maxSteps:=4000000) only[sH,↓sP,sA,tyS,simprocAttr,denilL_Nd];refine cN (args:=[_]) (dQ (L.take 150) a' 5 (by omega) (by omega)) rfl (by simp) ⟨rfl,rfl,rfl,rfl⟩ ?_;rintro u v' ⟨x,a1,rfl,rfl,g1,g2,g3,g4⟩;have hx:=g4 (by omega);have e1:IntKind.i64.wrap (1+x)=1+x:=IntWalk.i64_in _ (by omega);repeat refine AI ?_
 refine hK' _ _ ?_;clear hK' K';refine aE (g:=none) rfl rfl fun K' hK'=>?_;simp (maxSteps:=4000000) only[sH,↓sP,sA,tyS,simprocAttr,denilL_Nd,e1];repeat refine AI ?_
 refine hK' _ _ ?_;clear hK' K';refine aE (g:=none) rfl rfl fun K' hK'=>?_;simp (maxSteps:=4000000) only[sH,↓sP,sA,tyS,simprocAttr,denilL_Nd,e1];refine cN (args:=[_,_]) (aS3 (L.take 150) a1 T hN hlv (1+x) (by omega) (by omega)) rfl (by simp) ⟨rfl,rfl,rfl,rfl⟩ ?_;rintro u v' ⟨S0,a2,rfl,rfl,hS0,hd0,ha2⟩;repeat refine AI ?_
 refine hK' _ _ ?_;clear hK' K';refine aE (g:=none) rfl rfl fun K' hK'=>?_;simp (maxSteps:=4000000) only[sH,↓sP,sA,tyS,simprocAttr,denilL_Nd,e1];repeat refine AI ?_
 refine hK' _ _ ?_;clear hK' K';simp only[sE,↓reduceIte,simprocAttr];repeat refine AI ?_
 refine hK _ _ _ ?_;clear hK K;refine aC fun K hK=>?_;have key: ∀(S:List Sp) fr ob nx,S.length≤20→(∀x∈S,x.d.length<2^42)→Fits 1 fr ob (fin [(8,.c (.slc (T.map Nd.cv))),(9,.c (.slc (S.map Sp.cv)))]) (fob [(0,.tab tabs)]) 400→K fr ob nx:=by
  rintro S fr ob nx hS hd hf;refine hK _ _ _ (bO hf ?_);clear hf hK K;have hlen:=yJ (l:=T) (S:=S);have hal:=aX4 (l:=T) (S:=S) (c:=4398046511103) fun x hx=>by have:=hd x hx;omega
  refine aC fun K hK=>aD (by kernel_rfl) ?_;simp only[sR,simprocAttr];iterate 2
   (refine aE (g:=none) rfl rfl fun K' hK'=>?_;simp only[sH,↓sP,sA,tyS,simprocAttr,denilL_Nd,denilL_Sp];(repeat refine AI ?_);refine hK' _ _ ?_;clear hK' K')
  refine aE (g:=none) rfl rfl fun K' hK'=>?_;simp (maxSteps:=4000000) only[sH,↓sP,sA,tyS,simprocAttr,denilL_Nd,denilL_Sp];refine eP (args:=[_,_]) (aR5 T hN S (by omega) hd) ⟨rfl,rfl,rfl,rfl⟩ ?_;rintro u v ⟨rfl,rfl⟩;repeat refine AI ?_
  refine hK' _ _ ?_;clear hK' K';iterate 5
   (refine aE (g:=none) rfl rfl fun K' hK'=>?_;simp only[sH,↓sP,sA,tyS,simprocAttr,denilL_Nd,denilL_Sp];(repeat refine AI ?_);refine hK' _ _ ?_;clear hK' K')
  simp only[sE,↓reduceIte,simprocAttr];repeat refine AI ?_
  refine hK _ _ _ ?_;clear hK K;refine aC fun K hK=>aD (by kernel_rfl) ?_;simp only[sR,simprocAttr];iterate 2
   (refine aE (g:=none) rfl rfl fun K' hK'=>?_;simp only[sH,↓sP,sA,tyS,simprocAttr,denilL_Nd,denilL_Sp];(repeat refine AI ?_);refine hK' _ _ ?_;clear hK' K')
  refine aE (g:=none) rfl rfl fun K' hK'=>?_;simp (maxSteps:=4000000) only[sH,↓sP,sA,tyS,simprocAttr,denilL_Nd,denilL_Sp];refine eP (args:=[_,_]) (bM7 T hN S (by omega) hd) ⟨rfl,rfl,rfl,rfl⟩ ?_;rintro u v ⟨rfl,rfl⟩;repeat refine AI ?_
  refine hK' _ _ ?_;clear hK' K';iterate 5
   (refine aE (g:=none) rfl rfl fun K' hK'=>?_;simp only[sH,↓sP,sA,tyS,simprocAttr,denilL_Nd,denilL_Sp];(repeat refine AI ?_);refine hK' _ _ ?_;clear hK' K')
  simp only[sE,↓reduceIte,simprocAttr];repeat refine AI ?_
  refine hK _ _ _ ?_;clear hK K;refine aC fun K hK=>aD (by kernel_rfl) ?_;simp only[sR,simprocAttr];iterate 4
   (refine aE (g:=none) rfl rfl fun K' hK'=>?_;simp only[sH,↓sP,sA,tyS,simprocAttr,beq_self_eq_true,denilL_Ln];(repeat refine AI ?_);refine hK' _ _ ?_;clear hK' K')
  iterate 2
   (refine aE (g:=some (45,true)) rfl rfl fun K' hK'=>?_;simp only[sH,↓sP,sA,tyS,simprocAttr,beq_self_eq_true,denilL_Ln];(repeat refine AI ?_);refine hK' _ _ ?_;clear hK' K')
  refine aE (g:=some (45,true)) rfl rfl fun K' hK'=>?_;simp (maxSteps:=4000000) only[sH,↓sP,sA,tyS,simprocAttr,beq_self_eq_true,denilL_Ln];refine cB (args:=[_,_]) (bK7 (eG T S) (eG T S) (by omega) (fun x hx=>⟨by have:=(hal x hx).2.2.1;omega,by have:=bZ8 x hx;omega⟩)) ⟨rfl,rfl,rfl,rfl⟩ ?_;rintro u ⟨c,rfl,hc⟩;obtain rfl:=hc.2 rfl;repeat refine AI ?_
  refine hK' _ _ ?_;clear hK' K';iterate 2
   (refine aE (g:=none) rfl rfl fun K' hK'=>?_;simp only[sH,↓sP,sA,tyS,simprocAttr,beq_self_eq_true,denilL_Ln];(repeat refine AI ?_);refine hK' _ _ ?_;clear hK' K')
  refine aE (g:=some (50,true)) rfl rfl fun K' hK'=>?_;simp (maxSteps:=4000000) only[sH,↓sP,sA,tyS,simprocAttr,beq_self_eq_true,denilL_Ln];refine mJ (args:=[]) 0 bZ3 rfl (by simp) ⟨rfl,rfl,rfl,rfl⟩ ?_;rintro u rfl;repeat refine AI ?_
  refine hK' _ _ ?_;clear hK' K';iterate 2
   (refine aE (g:=none) rfl rfl fun K' hK'=>?_;simp only[sH,↓sP,sA,tyS,simprocAttr,beq_self_eq_true,denilL_Ln];(repeat refine AI ?_);refine hK' _ _ ?_;clear hK' K')
  simp only[sE,↓reduceIte,simprocAttr];repeat refine AI ?_
  refine hK _ _ _ ?_;clear hK K;refine aH ?_;simp (maxSteps:=4000000) only[bK,Tryz.results3,bH,bJ,bG,↓sP,sA,tyS,simprocAttr];exact qB [] (.bool true) rfl rfl (by simp) rfl
 refine aC fun K hK=>aD (by kernel_rfl) ?_;simp (maxSteps:=4000000) only[↓sP,sA,tyS,simprocAttr];repeat refine AI ?_
 refine hK _ _ _ ?_;clear hK K;refine aJ (b:=wild) rfl (fun hb=>?_) (fun hb=>?_)
 ·
  have hmn:(if(20:Int)<(R.length:Int)then(20:Int)else(R.length:Int))=((min R.length 20:Nat):Int):=by split<;>omega
  have hcl: ∀v∈R.map Sp.cv,v.cells=3:=by intro v hv;obtain⟨y,_,rfl⟩:=List.mem_map.1 hv;exact y.cells
  refine aD (by kernel_rfl) ?_;simp only[sR,simprocAttr];iterate 6
   (refine aE (g:=none) rfl rfl fun K' hK'=>?_;simp only[sH,↓sP,sA,tyS,simprocAttr,List.length_map,hmn,Int.natCast_nonneg,Int.ofNat_le,Nat.min_le_left,Int.toNat_natCast,Nat.sub_zero,List.drop_zero,←List.map_take,denilL_Sp];(repeat refine AI ?_);refine hK' _ _ ?_;clear hK' K')
  simp only[sE,↓reduceIte,simprocAttr];exact key (R.take (min R.length 20)) _ _ _ (by simp;omega) (fun x hx=>hR x (List.mem_of_mem_take hx)) (aM (by omega) (by simp[aW,fin_at,finA_at,upd_at,HV.men,HV.menL,HV.norm,HV.toC,HV.toCL]) (by simp[aX,fob_at,upd_at,none0_at,bI,HO.men,HV.men,HV.menL,HV.norm,HV.toC,HV.toCL]))
 refine aN ?_;simp (maxSteps:=4000000) only[↓sP,sA,tyS,simprocAttr];exact key S0 _ _ _ (by omega) (fun x hx=>by have:=hd0 x hx;omega) (aM (by omega) (by simp[aW,fin_at,finA_at,upd_at,HV.men,HV.menL,HV.norm,HV.toC,HV.toCL]) (by simp[aX,fob_at,upd_at,none0_at,bI,HO.men,HV.men,HV.menL,HV.norm,HV.toC,HV.toCL]))
end Go.Proofs.YthedbjfipmkpiaaGreatDoor
namespace Go.Hl
open Go Go.RowKit
section
variable {P:Program}{T:TypeId→Prop}{H:Type}{enc:TypeId×Value→H}
end
inductive RchOk (P:Program):TypeId→CV→Prop
 |lit {t:TypeId} {c:CV} (h:c.isAgg=false) (h2: ∀l,c≠ .slc l):RchOk P t c
 |slc {t e:TypeId} {l:List CV} (hu:P.underlying t=some (.slice e)) (hl:l.length*P.bytesOf e≤reachBytes) (hx: ∀x∈l,RchOk P e x):RchOk P t (.slc l)
 |arr {t e:TypeId} {m:Nat} {l:List CV} (hu:P.underlying t=some (.array m e)) (hx: ∀x∈l,RchOk P e x):RchOk P t (.agg l)
 |struct {t:TypeId} {fs:Array Field} {l:List CV} (hu:P.underlying t=some (.struct fs)) (hx: ∀(i:Nat) (f:Field) (x:CV),fs.toList[i]? =some f→l[i]? =some x→RchOk P f.type x):RchOk P t (.agg l)
variable {l:List CV}{t:TypeId}{P:Program}
theorem RchOk.of_slc {e:TypeId}(hu:P.underlying t=some (.slice e))(h:RchOk P t (.slc l)):l.length*P.bytesOf e≤reachBytes∧ ∀x∈l,RchOk P e x:=by
 cases h with
 |lit h h2=>exact absurd rfl (h2 l)
 |slc h2 h3 h4=>
  rw[hu]at h2;cases h2;exact⟨h3,h4⟩
theorem RchOk.of_struct {fs:Array Field}(hu:P.underlying t=some (.struct fs))(h:RchOk P t (.agg l)): ∀(i:Nat) (f:Field) (x:CV),fs.toList[i]? =some f→l[i]? =some x→RchOk P f.type x:=by
 cases h with
 |lit h h2=>cases h
 |arr h2 h3=>rw[hu]at h2;cases h2
 |struct h2 h3=>
  rw[hu]at h2;cases h2;exact h3
theorem kK {H:Type}{P:Program}{e:TypeId}: ∀{ds:List (DataW H)},(DataW.weightsAll P e ds).all (· ≤reachBytes)=true→ ∀d∈ds,(d.weights P e).all (· ≤reachBytes)=true
 |[],_,d,h=>by cases h
 |x::ds,hw,d,h=>by
  simp only[DataW.weightsAll,List.all_append,Bool.and_eq_true]at hw;rcases List.mem_cons.1 h with rfl|h
  · exact hw.1
  · exact kK hw.2 d h
theorem mV {H:Type}{P:Program}: ∀{ts:List TypeId} {ds:List (DataW H)},(DataW.weightsEach P ts ds).all (· ≤reachBytes)=true→ ∀(i:Nat) t d,ts[i]? =some t→ds[i]? =some d→(d.weights P t).all (· ≤reachBytes)=true
 |[],_,_,i,t,d,h,_=>by simp at h
 |_::_,[],_,i,t,d,_,h=>by simp at h
 |t'::ts,x::ds,hw,i,t,d,h1,h2=>by
  simp only[DataW.weightsEach,List.all_append,Bool.and_eq_true]at hw;cases i with
  |zero=>
   simp only[List.getElem?_cons_zero,Option.some.injEq]at h1 h2;subst h1 h2;exact hw.1
  |succ i=>exact mV hw.2 i t d (by simpa using h1) (by simpa using h2)
section
variable {H:Type}{enc:TypeId×Value→H}{P:Program}{T:TypeId→Prop}{w:World}{base:Nat}{sp:Nat→Bool}{held:Bool}
theorem oY (K:Kids P T): ∀(m:Nat) (t:TypeId),nT P m t=true→T t→ ∀(n:Nat) (cs:List Value) (x:DataW H×List MemPlace),DataW.trod enc P w base sp held n t cs=some x→(x.1.weights P t).all (· ≤reachBytes)=true→
  ∃c,RepC w (fun _=>False) c cs∧HasTy P t c∧RchOk P t c
 |0,t,hp,_,_,_,_,_,_=>by simp[nT]at hp
 |m+1,t,hp,hT,0,cs,x,h,_=>by simp[DataW.trod]at h
 |m+1,t,hp,hT,n+1,cs,x,h,hw=>by
  unfold nT at hp;split at hp
  ·
   rename_i hu;unfold DataW.trod at h;rw[hu]at h;split at h
   case h_1=>rename_i b h1;exact⟨.bool b,by simp[RepC],.bool hu b,.lit rfl (by simp)⟩
   all_goals grind
  ·
   rename_i k hu;unfold DataW.trod at h;rw[hu]at h;split at h
   case h_2=>
    rename_i k' k2 n2 h1;cases h1;split at h
    · rename_i hc;obtain⟨rfl,hw⟩:=hc;exact⟨.int _ n2,by simp[RepC],.int hu hw,.lit rfl (by simp)⟩
    grind
   all_goals grind
  ·
   rename_i hu;unfold DataW.trod at h;rw[hu]at h;split at h
   case h_4=>
    rename_i s h1;split at h
    · rename_i hc;refine⟨.str s.data.toList,by simp[RepC],.str hu ?_,.lit rfl (by simp)⟩;simp_all
    grind
   all_goals grind
  ·
   rename_i e hu;unfold DataW.trod at h;rw[hu]at h;split at h
   case h_7=>
    rename_i el h1;exact⟨.slc [],by simp only[RepC];exact⟨none,0,[],0,rfl,by simp[RepL],by simp,by simp,fun _=>rfl,fun ad had=>(by grind)⟩,.slc hu (by simp) (by simp),.slc hu (by simp) (by simp)⟩
   case h_8=>
    rename_i e' a len cap h1;cases h1;simp only at h;split at h
    ·
     rename_i hc;obtain⟨hb,hlc,hcm⟩:=hc;rw[Option.bind_eq_some_iff]at h;obtain⟨elems,he,h0⟩:=h;obtain⟨rest,_,h0⟩:=Option.map_eq_some_iff.1 h0;subst h0;have hlen:elems.length=len:=by rw[mapM_some_length he,List.length_range]
     simp only[DataW.weights,hu,List.all_cons,Bool.and_eq_true,decide_eq_true_eq,List.length_map,List.all_append]at hw;obtain⟨hw1,hw2,_⟩:=hw;have hwe:=kK hw2;have hel: ∀i,i<len→ ∃cl,w.cells? base (a.add (i*P.cellsOf e)) (P.cellsOf e)=some cl∧ ∃y,DataW.trod enc P w base sp held n e cl=some y∧(y.1.weights P e).all (· ≤reachBytes)=true:=fun i hi=>by
      have h3:=mapM_some_get he i i (by grind);rw[List.getElem?_eq_getElem (by omega),Option.bind_eq_some_iff]at h3;obtain⟨cl,h4,h5⟩:=h3;exact⟨cl,h4,_,h5,hwe _ (List.mem_map_of_mem (List.getElem_mem _))⟩
     let g:Nat→List Value:=fun i=>(w.cells? base (a.add (i*P.cellsOf e)) (P.cellsOf e)).getD []
     have hg: ∀i,i<len→(g i).length=P.cellsOf e∧ ∀r,r<P.cellsOf e→w.cell? ((a.add (i*P.cellsOf e)).add r)=(g i)[r]? :=fun i hi=>by
      obtain⟨cl,h3,_⟩:=hel i hi;obtain⟨_,h4,h5⟩:=World.cells?_some h3;grind
     obtain⟨cl,hr,hlen2,hty⟩:=mI (w:=w) (O:=fun _=>False) (g:=g) (R:=fun i c=>(HasTy P e c∧RchOk P e c)∧c.cells=P.cellsOf e) (List.range len) (fun i hi=>by
      have hi':=List.mem_range.1 hi;obtain⟨cl,h3,y,h4,h5⟩:=hel i hi';have hgi:g i=cl:=by simp[g,h3]
      obtain⟨c,q1,q2,q3⟩:=oY K m e hp (K.slice hT hu) n cl y h4 h5;have h6:=bL q1;obtain⟨_,h7,_⟩:=World.cells?_some h3;exact⟨c,by rw[hgi];exact q1,⟨q2,q3⟩,by omega⟩)
     simp only[List.length_range]at hlen2;have hmem: ∀x∈cl,(HasTy P e x∧RchOk P e x)∧x.cells=P.cellsOf e:=fun x hx=>by
      obtain⟨i,hi,rfl⟩:=List.getElem_of_mem hx;exact hty i i _ (List.getElem?_range (by omega)) (by rw[List.getElem?_eq_getElem hi])
     refine⟨.slc cl,?_,.slc hu (fun x hx=>(hmem x hx).1.1) (by omega),.slc hu ?_ (fun x hx=>(hmem x hx).1.2)⟩
     · simp only[RepC];refine⟨some a,cap,_,P.cellsOf e,by rw[hlen2],hr,fun v hv=>(hmem v hv).2,by omega,fun hh=>(by grind),fun ad had=>?_⟩;cases had;exact⟨(xA len hg).2,fun _ h=>h⟩
     · rw[hlen2,←hlen];exact Nat.le_trans (Nat.mul_le_mul_right _ (Nat.le_add_right _ _)) hw1
    grind
   all_goals grind
  ·
   rename_i k e hu;unfold DataW.trod at h;rw[hu]at h;split at h
   case h_10=>
    rename_i cs0 _ _ k' e' h1;cases h1;split at h
    ·
     rename_i hc;rw[Option.map_eq_some_iff]at h;obtain⟨xs,hxs,h0⟩:=h;subst h0;simp only[DataW.weights,hu]at hw;have hwe:=kK hw;obtain⟨hTe,hce⟩:=K.array hT hu;obtain⟨cl,hr,hlen,hty⟩:=mI (w:=w) (O:=fun _=>False) (g:=fun i=>(cs0.drop (i*P.cellsOf e)).take (P.cellsOf e)) (R:=fun i c=>HasTy P e c∧RchOk P e c) (List.range k) (fun i hi=>by
      have hi':=List.mem_range.1 hi;have:=mapM_some_get hxs i i (by grind);have hlen:=mapM_some_length hxs;simp only[List.length_range]at hlen;rw[List.getElem?_eq_getElem (by omega)]at this;obtain⟨c,q1,q2,q3⟩:=oY K m e hp hTe n _ _ this (hwe _ (List.mem_map_of_mem (List.getElem_mem _)));exact⟨c,q1,q2,q3⟩)
     simp only[List.length_range]at hlen;rw[wZ,←hce,←hc,List.take_length]at hr;have hmem: ∀x∈cl,HasTy P e x∧RchOk P e x:=fun x hx=>by
      obtain⟨i,hi,rfl⟩:=List.getElem_of_mem hx;exact hty i i _ (List.getElem?_range (by omega)) (by rw[List.getElem?_eq_getElem hi])
     exact⟨.agg cl,hr,.arr hu (fun x hx=>(hmem x hx).1) hlen,.arr hu fun x hx=>(hmem x hx).2⟩
    grind
   all_goals grind
  ·
   rename_i fs hu;unfold DataW.trod at h;rw[hu]at h;split at h
   case h_9=>
    rename_i cs0 _ _ fs' h1;cases h1;split at h
    ·
     rename_i hc;rw[Option.map_eq_some_iff]at h;obtain⟨xs,hxs,h0⟩:=h;subst h0;simp only[DataW.weights,hu]at hw;have hwe:=mV hw;obtain⟨hTf,hsum,hoff⟩:=K.struct hT hu;obtain⟨cl,hr,hlen,hty⟩:=mI (w:=w) (O:=fun _=>False) (g:=fun f:Field=>(cs0.drop f.offset).take (P.cellsOf f.type)) (R:=fun f c=>HasTy P f.type c∧RchOk P f.type c) fs.toList (fun f hf=>by
      obtain⟨i,hi,rfl⟩:=List.getElem_of_mem hf;have:=mapM_some_get hxs i _ (List.getElem?_eq_getElem hi);have hlen:=mapM_some_length hxs;rw[List.getElem?_eq_getElem (by omega)]at this;obtain⟨c,q1,q2,q3⟩:=oY K m _ (List.all_eq_true.1 hp _ (List.getElem_mem hi)) (hTf _ (List.getElem_mem hi)) n _ _ this (hwe i _ _ (by rw[List.getElem?_map,List.getElem?_eq_getElem hi];rfl) (by rw[List.getElem?_map,List.getElem?_eq_getElem (by omega)];rfl));exact⟨c,q1,q2,q3⟩)
     rw[wY (cw:=fun f=>P.cellsOf f.type) fs.toList 0 (fun j f hf=>by grind),List.drop_zero,←hsum,←hc,List.take_length]at hr;exact⟨.agg cl,hr,.struct hu (by grind) (fun i f x h1 h2=>(hty i f x h1 h2).1),.struct hu (fun i f x h1 h2=>(hty i f x h1 h2).2)⟩
    grind
   all_goals grind
  grind
theorem pR (K:Kids P T){m:Nat}: ∀{ts:List TypeId} {vs:List Value} {ds:List (DataW H)} {ps:List MemPlace},DataW.TrodAll enc P w base sp held ts vs ds ps→(∀t∈ts,nT P m t=true∧T t)→
  (∀(j:Nat) t v,ts[j]? =some t→vs[j]? =some v→Value.okWide P w .any 0 t v)→(DataW.weightsEach P ts ds).all (· ≤reachBytes)=true→
  ∃cs:List CV,RepHV w (fun _=>none) (Owned (fun _=>none) (fun _=>False)) (cs.map .c) vs∧cs.length=ts.length∧ds.length=ts.length∧ ∀(j:Nat) t c,ts[j]? =some t→cs[j]? =some c→HasTy P t c∧RchOk P t c
 |[],vs,ds,ps,h,_,_,_=>by
  obtain⟨rfl,rfl,rfl⟩:=ChangeShapes.trodAll_nil h;exact⟨[],by simp[RepHV],rfl,rfl,by simp⟩
 |t::ts,vs,ds,ps,h,hp,ho,hw=>by
  obtain⟨v,vs1,d,ds1,a,b,rfl,rfl,rfl,⟨n,h1⟩,h2⟩:=ChangeShapes.trodAll_cons h;simp only[DataW.weightsEach,List.all_append,Bool.and_eq_true]at hw;obtain⟨c,q1,q2,q3⟩:=oY (w:=w) K m t (hp t (by simp)).1 (hp t (by simp)).2 n _ _ h1 hw.1;obtain⟨cs,r1,r2,r3,r4⟩:=pR K h2 (fun t ht=>hp t (by simp[ht])) (fun j t v h3 h4=>ho (j+1) t v (by simpa using h3) (by simpa using h4)) hw.2;have hst:Stay w (fun _=>False) w (Owned (fun _=>none) (fun _=>False)):=⟨fun b _ _=>⟨rfl,fun hb=>hb.elim (fun x=>x) (aN0 b)⟩⟩;refine⟨c::cs,?_,by simp[r2],by simp[r3],fun j t' c' h3 h4=>?_⟩
  · rw[List.map_cons,bM];exact⟨v,vs1,rfl,⟨by simp only[RepH];exact q1.stay hst,vH q2 (ho 0 t v rfl rfl)⟩,r1⟩
  ·
   cases j with
   |zero=>simp at h3 h4;rw[←h3,←h4];exact⟨q2,q3⟩
   |succ j=>simp at h3 h4;exact r4 j t' c' h3 h4
end
section
variable {P:Program}{T:TypeId→Prop}{H:Type}{enc:TypeId×Value→H}
theorem bM9 {W:World}{args:Array Value}{f:FuncId}{fn:Func}{s:ChangeSpec}{mm:Nat}{tb:TypeId}{tabs:pA}(hok:eO P f=true)(K:Kids P T)(hz: ∀t e,T t→P.underlying t=some (.slice e)→0<P.cellsOf e)(hvars:s.vars=[])(hres:fn.resultTypes= #[tb])(htb:P.underlying tb=some .bool)
  (hspec: ∀(H:Type) (ds:List (DataW H)),ds.length=fn.params.toList.length→(s.fn H ds).results=[.lit (.bool true)]∧(s.fn H ds).args=ds∧(s.fn H ds).vars=[]) (hpl: ∀t∈fn.params.toList,nT P mm t=true∧T t)
  (hlaw: ∀cs:List CV,cs.length=fn.params.toList.length→(∀(j:Nat) t c,fn.params.toList[j]? =some t→cs[j]? =some c→HasTy P t c∧RchOk P t c)→qA P f tabs cs (fun v=>v= .bool true))
  (htab: ∀x∈tabs,∃t fz,W.heap[x.1]? =some (.cells x.2.toArray t fz)) {ds gs:List (DataW H)} {before:List MemPlace} (hval: ∀(j:Nat) t v,fn.params[j]? =some t→args[j]? =some v→Value.okWide P W .any 0 t v)
  (hwt:(DataW.weightsEach P (fn.params.toList++s.plain.varTypes P) (ds++gs)).all (· ≤reachBytes)=true)
  (hW:DataW.Whole enc P fn.params.toList s.vars false W args.toList ds gs before):
  Calls P f args W fun e W'=> ∃v,e= .returned v∧s.post enc P fn false true false false W args v W':=by
 have hW':=hW;obtain⟨p,q,hA,hV,rfl,hfz,hnd⟩:=hW;rw[hvars]at hV;obtain⟨rfl,rfl⟩:=ChangeShapes.trodVars_none hV;simp only[List.append_nil]at hW' hfz;have hv0:s.plain.varTypes P=[]:=by
  unfold ChangeSpec.plain;simp[DataSpec.varTypes,hvars]
 rw[hv0]at hwt;simp only[List.append_nil]at hwt;obtain⟨cs,r1,r2,r3,r4⟩:=pR (m:=mm) K hA hpl (fun j t v h1 h2=>hval j t v (by grind) (by grind)) hwt;obtain⟨_,hrun⟩:=hlaw cs r2 r4;have hS:RepS W (fun _=>none) (fun _=>False) (fV tabs):=by
  refine⟨fun i o h=>?_,fun _ _=>rfl,fun _ _ _ _ _ h=>(by grind),fun _ _ _ h=>(by grind)⟩;rw[gL]at h;split at h
  ·
   cases h;refine⟨rfl,fun x hx=>⟨htab x hx,?_⟩⟩;rintro(h1|⟨i,L,h1,_⟩)
   · exact h1
   · cases h1
  · cases h
 have hcall:=hrun W (fun _=>none) (fun _=>False) args.toList hS r1 (fun _ h=>h.elim);rw[Array.toArray_toList]at hcall;refine(hcall.calls hok).mono ?_;rintro e W' ⟨r,ob',ρ',x,rfl,⟨v,rfl,rfl,rfl⟩,hg⟩;obtain⟨hr1,hr2⟩:=hg.v;have hx:x= .bool true:=by
  have hag:Value.isAgg' x=false:=by rw[←hr2];rfl
  rw[cells_single hag]at hr1;simpa[RepH,RepC]using hr1
 subst hx;have hheap: ∀b,b<W.heap.size→W'.heap[b]? =W.heap[b]? :=fun b hb=>hg.stay.block b hb (aN0 b);obtain⟨s1,s2,s3⟩:=hspec H (ds++[]) (by simpa using r3);have hlt: ∀a∈p,a.block<W.heap.size:=hA.lt;have args': ∀sp:Nat→Bool,(∀a∈p,sp a.block=true)→DataW.TrodAll enc P W' 0 sp true fn.params.toList args.toList ds p:=fun sp hsp=>
  pI (hA.respare K hz (fun t ht=>(hpl t ht).2) hsp) (fun a ha=>bG3 hheap (hlt a ha))
 have hrl:Value.resultList fn.resultTypes.size (.bool true)=[.bool true]:=by rw[hres];rfl
 have hresT: ∀(b:Nat) (sp:Nat→Bool) (hd:Bool),DataW.TrodAll enc P W' b sp hd fn.resultTypes.toList (Value.resultList fn.resultTypes.size (.bool true)) [.lit (.bool true)] []:=fun b sp hd=>by
  rw[hrl,hres];exact trodAll_cons_mk (RowKit.shut_bool htb true) ChangeShapes.trodAll_mk0
 refine⟨.bool true,rfl,ds,[],p,[],p,[],by simpa using hW',?_,?_,?_,?_,?_⟩
 · rw[s1];exact hresT _ _ _
 · rw[s2];simpa using args' _ (fun a ha=>by simpa using hlt a ha)
 · rw[s3,hvars];rfl
 · exact aV5 hg.stay.os hg.stay.output hheap _
 · intro h;cases h
end
end Go.Hl
namespace Go.Proofs.YthedbjfipmkpiaaGreatDoor
open Go Go.Hl Go.Pl
theorem cS8 {c:CV}(h:HasTy Tryz.prog 64 c∧RchOk Tryz.prog 64 c): ∃x:Sp,c=x.cv∧x.d.length<2^42:=by
 obtain⟨l,rfl,hn,hl⟩:=h.1.of_struct Tryz.underlying64;have hr:=h.2.of_struct Tryz.underlying64
 match l,hn,hl,hr with
 |[a,b,c],_,hl,hr=>
  obtain⟨k,rfl⟩:=(hl 0 _ a rfl rfl).of_bool Tryz.underlying4;obtain⟨D,rfl,_⟩:=cH5 (hl 1 _ b rfl rfl);obtain⟨m,rfl,_⟩:=(hl 2 _ c rfl rfl).of_int Tryz.underlying3;have h2:=((hr 1 _ _ rfl rfl).of_slc Tryz.underlying39).1;rw[show Tryz.prog.bytesOf 44=32 from by kernel_rfl,List.length_map,reachBytes]at h2;exact⟨⟨k,D,m⟩,rfl,by show D.length<_;omega⟩
theorem cO3 {c:CV}(h:HasTy Tryz.prog 23 c∧RchOk Tryz.prog 23 c): ∃R:List Sp,c= .slc (R.map Sp.cv)∧(∀x∈R,x.d.length<2^42)∧R.length<2^62:=by
 obtain⟨l,rfl,hl,hn⟩:=h.1.of_slc Tryz.underlying23;have hr:=h.2.of_slc Tryz.underlying23;obtain⟨R,rfl,hR⟩:=iY (f:=Sp.cv) (Q:=fun x=>x.d.length<2^42) l (fun x hx=>cS8 ⟨hl x hx,hr.2 x hx⟩);refine⟨R,rfl,hR,?_⟩;have h2:=hr.1;rw[show Tryz.prog.bytesOf 64=40 from by kernel_rfl,List.length_map,reachBytes]at h2;omega
end Go.Proofs.YthedbjfipmkpiaaGreatDoor
