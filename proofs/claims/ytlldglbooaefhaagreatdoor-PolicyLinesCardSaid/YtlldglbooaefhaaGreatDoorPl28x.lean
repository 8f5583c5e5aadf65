/- Plain Lean: where the reference's reader stands after some lines (28.5), and what Decode answers. By an AI agent. -/
import Derived.Test.YtlldglbooaefhaaGreatDoorHzUt
import Derived.Test.YtlldglbooaefhaaGreatDoorHlTlaw
import Derived.Test.YtlldglbooaefhaaGreatDoorPl28q
import Derived.Test.YtlldglbooaefhaaGreatDoorPl03c
set_option linter.unusedSimpArgs false
set_option linter.unusedVariables false
set_option linter.defProp false
namespace Go.Proofs.YtlldglbooaefhaaGreatDoor
open Go Go.Hl Go.Pl
set_option maxRecDepth 10000
set_option maxHeartbeats 16000000
abbrev rls (r:List Pr)(a b c:aF)(g:Int)(k:Nat):List HV:=(r.map fun x=>HV.c x.cv)++[.agg [.c (.str a),.c (.str b),.c (.str c),.c (.int .i64 g),.own 3 k]]
abbrev os3 (n:aF)(v:Int)(r:List Pr)(a b c:aF)(g:Int)(t:List Nd)(W:List Nat)(m:Nat)(d:Bool):List HO:=
 [.box 100 (rbx n v (.own 1 (r.length+1)) (cN 2 W.length 1 m) d),.hrow 54 5 (rls r a b c g t.length),.row 3 1 (W.map iC),.row 40 7 (t.map Nd.cv)]
variable {m:Nat}{W:List Nat}{t:List Nd}
theorem sI {ob:Ob}{b0:CV}{n:aF}{v:Int}{r:List Pr}{a b c:aF}{g:Int}{d:Bool}{u:HV}{R:HV→List HO→Prop}(hr:u= .c b0)(h0:ob 0=some (.box 100 (rbx n v (.own 1 (r.length+1)) (cN 2 W.length 1 m) d)))(h1:ob 1=some (.hrow 54 5 (rls r a b c g t.length)))(h2:ob 2=some (.row 3 1 (W.map iC)))
  (h3:ob 3=some (.row 40 7 (t.map Nd.cv))) (hR:R (.c b0.denil) (os3 n v r a b c g t W m d)):mB 4 u ob (fun r ob'=> ∃os',ob'=lst os'∧(4≤os'.length∧os'.length≤4+4)∧R r os'):=by
 subst hr;refine eO [] [] (.c b0.denil) (os3 n v r a b c g t W m d) (by simp[HV.close,HV.norm,HV.toC,HV.ren]) (by simp[HV.men]) ⟨⟨by simp[HO.men,HV.men,HV.menL,rbx,aU],by simp,_,h0,?_⟩,⟨by simp[HO.men,HV.menL_append,HV.menL,HV.men,bN],by simp,_,h1,?_⟩,⟨by simp[HO.men],by simp,_,h2,rfl⟩,⟨by simp[HO.men],by simp,_,h3,rfl⟩,trivial⟩ rfl List.nodup_nil (by simp) (by simp) hR
 · simp[rbx,HO.close,HV.close,HV.closeL,oH m W h2,CV.denil,fI,HV.norm,HV.toC,HV.toCL,HO.ren,HV.ren,HV.renL,aM,gW,gE,tau]
 simp[HO.close,HO.ren,qK,pG,lW,jN,fI,HV.close,HV.closeL,HV.ren,HV.renL,HV.norm,HV.toC,HV.toCL,CV.denil,tau]
theorem cF5 {w:List aF}{n:Nd}(h:dB w=some n):n.c=0:=by
 unfold dB dZ at h
 repeat' split at h
 all_goals first|(cases h;rfl)|(cases h)|(obtain⟨x,_,rfl⟩:=Option.map_eq_some_iff.1 h;rfl)
theorem aI8 (h0:0<m)(h:m≤W.length):W.take m≠[]:=by
 intro e;have:=congrArg List.length e;rw[List.length_take,Nat.min_eq_left h]at this;simp only[List.length_nil]at this;omega
theorem aD5 (h0:0<m)(h:m≤W.length):(W.take m).getLast? =some (W[m-1]'(by omega)):=by
 rw[List.getLast?_eq_getElem?,List.length_take,Nat.min_eq_left h,List.getElem?_take,if_pos (by omega)];simp
variable {x:Nat}
theorem bY2 {B:Nat}(hx:x<t.length)(h: ∀y∈t,0≤y.c∧y.c≤B): ∀y∈pI t x,0≤y.c∧y.c≤B+1:=by
 intro y hy;have hg:t.getD x nd0=t[x]:=by simp[List.getD_eq_getElem?_getD,hx]
 rcases List.mem_or_eq_of_mem_set hy with h1|h1
 · have:=h y h1;omega
 have:=h _ (List.getElem_mem hx);rw[h1,hg];simp only;omega
theorem vS (hx:x<t.length):(t.map Nd.cv).set x (Nd.cv ⟨t[x].k,t[x].n,t[x].c+1,t[x].q⟩)=(pI t x).map Nd.cv:=by
 have hg:t.getD x nd0=t[x]:=by simp[List.getD_eq_getElem?_getD,hx]
 rw[pI,List.map_set,hg]
def J3 (w:List aF)(n:aF)(v:Int)(r:List Pr)(a b c:aF)(g:Int)(t:List Nd)(W:List Nat)(m:Nat)(d:Bool)(B:Nat)(u:HV)(os':List HO):Prop:=
 u= .c (.bool (cS w false ⟨n,v,r++[⟨a,b,c,g,t⟩],W.take m,d⟩).isSome)∧match cS w false ⟨n,v,r++[⟨a,b,c,g,t⟩],W.take m,d⟩with
   |some y=> ∃t' W' m' d',y=⟨n,v,r++[⟨a,b,c,g,t'⟩],W'.take m',d'⟩∧os'=os3 n v r a b c g t' W' m' d'∧m'≤W'.length∧W'.length≤W.length+1∧t'.length≤t.length+1∧(∀i∈W'.take m',i<t'.length)∧ ∀x∈t',0≤x.c∧x.c≤B+1
   |none=>os'=os3 n v r a b c g t W m d
theorem aS9 (w:List aF)(hw:0<w.length)(n:aF)(v:Int)(r:List Pr)(a b c:aF)(g:Int)(t:List Nd)(W:List Nat)(m:Nat)(d:Bool)(B:Nat)(hm:m≤W.length)(hd:d=true∨0<m)(ho: ∀i∈W.take m,i<t.length)(hr:r.length<2^40)(ht:t.length<2^40)(hW:W.length<2^40)(hB:B<2^40)(hc: ∀x∈t,0≤x.c∧x.c≤B):
  HGe Tryz.prog 65 [.ptr 0 0,.c (lsC w),.c (.bool false)] (os3 n v r a b c g t W m d) (J3 w n v r a b c g t W m d B):=by
 refine cI (args:=[.ptr 0 0,.c (lsC w),.c (.bool false)]) Tryz.func65 rfl (by kernel_rfl) (fZ rfl (by simp[rbx,eU,HO.men,HV.men,HV.menL,HV.menL_append,aU,bN]) (by simp[HV.menL,HV.men])) (Nat.le_of_ble_eq_true rfl) ?_;show Hw _ _ 4 _ _ _ (lst _) 4;rw[cQ0];unfold lsC;have hw0:nth (w.map CV.str) 0= .str (wd w 0):=cF hw;have hwr:IntKind.i64.wrap (((r.length+1:Nat):Int)-1)=(r.length:Int):=by rw[cQ _ (by omega)];omega
 refine aB fun K hK=>aK (by kernel_rfl) ?_;simp (maxSteps:=4000000) only[↓sP,sA,tyS,simprocAttr];repeat refine AI ?_
 refine hK _ _ _ ?_;clear hK K;refine aB fun K hK=>?_;refine aB fun K hK=>aK (by kernel_rfl) ?_;simp (maxSteps:=4000000) only[↓sP,sA,tyS,simprocAttr];repeat refine AI ?_
 refine hK _ _ _ ?_;clear hK K;refine aG (b:=false) rfl (fun hb=>?_) (fun hb=>?_)
 · cases hb
 refine aJ ?_;simp (maxSteps:=4000000) only[↓sP,sA,tyS,simprocAttr];repeat refine AI ?_
 refine hK _ _ _ ?_;clear hK K;refine aB fun K hK=>?_;refine aB fun K hK=>?_;have key: ∀fr ob nx,Fits 4 fr ob (fin [(0,.ptr 0 0),(1,.c (.slc (w.map .str))),(54,.c (.bool false))]) (fob [(0,.box 100 (rbx n v (.own 1 (r.length+1)) (cN 2 W.length 1 m) d)),(1,.hrow 54 5 (rls r a b c g t.length)),(2,.row 3 1 (W.map iC)),(3,.row 40 7 (t.map Nd.cv))]) 100→K fr ob nx:=by
  rintro fr ob nx hf;refine hK _ _ _ (bH hf ?_);clear hf hK K;refine aG (b:=false) rfl (fun hb=>?_) (fun hb=>?_)
  · cases hb
  refine aJ ?_;simp (maxSteps:=4000000) only[↓sP,sA,tyS,simprocAttr];repeat refine AI ?_
  refine hK _ _ _ ?_;clear hK K;refine aB fun K hK=>cY mixed [(0,[],[]),(1,[],[]),(2,[],[]),(3,[],[]),(4,[],[]),(5,[],[]),(6,[],[]),(7,[],[]),(8,[],[]),(9,[],[]),(10,[],[]),(11,[],[]),(12,[],[]),(13,[],[])] [0,1,3,7,15,0,32,96,224,480,992,2016,4095,8191] (by kernel_rfl) (by kernel_rfl) (by kernel_rfl) (by kernel_rfl) rfl (by kernel_rfl) ?_;iterate 10
   (refine bW (g:=none) rfl rfl fun K' hK'=>?_;simp only[sH,↓sP,sA,tyS,simprocAttr,rbx,aX,aQ,aM,List.length_append,List.length_map,List.length_cons,List.length_nil,Nat.zero_add,hwr,Int.natCast_nonneg,Int.ofNat_lt,Nat.lt_succ_self,Int.toNat_natCast];(repeat refine AI ?_);refine hK' _ _ ?_;clear hK' K')
  refine bF (g:=none) rfl rfl fun K' hK'=>?_;simp (maxSteps:=4000000) only[sN,↓hopH.eq_def,sH,↓sP,sA,tyS,simprocAttr,rbx,aX,aQ,aM,List.length_append,List.length_map,List.length_cons,List.length_nil,Nat.zero_add,hwr,Int.natCast_nonneg,Int.ofNat_lt,Nat.lt_succ_self,Int.toNat_natCast];repeat refine AI ?_
  refine hK' _ _ ?_;clear hK' K';refine bW (g:=none) rfl rfl fun K' hK'=>?_;simp (maxSteps:=4000000) only[sH,↓sP,sA,tyS,simprocAttr,rbx,aX,aQ,aM,List.length_append,List.length_map,List.length_cons,List.length_nil,Nat.zero_add,hwr,Int.natCast_nonneg,Int.ofNat_lt,Nat.lt_succ_self,Int.toNat_natCast];repeat refine AI ?_
  refine hK' _ _ ?_;clear hK' K';refine bF (g:=none) rfl rfl fun K' hK'=>?_;simp (maxSteps:=4000000) only[sN,↓hopH.eq_def,sH,↓sP,sA,tyS,simprocAttr,rbx,aX,aQ,aM,List.length_append,List.length_map,List.length_cons,List.length_nil,Nat.zero_add,hwr,Int.natCast_nonneg,Int.ofNat_lt,Nat.lt_succ_self,Int.toNat_natCast];repeat refine AI ?_
  refine hK' _ _ ?_;clear hK' K';refine bW (g:=none) rfl rfl fun K' hK'=>?_;simp (maxSteps:=4000000) only[sH,↓sP,sA,tyS,simprocAttr,rbx,aX,aQ,aM,List.length_append,List.length_map,List.length_cons,List.length_nil,Nat.zero_add,hwr,Int.natCast_nonneg,Int.ofNat_lt,Nat.lt_succ_self,Int.toNat_natCast];repeat refine AI ?_
  refine hK' _ _ ?_;clear hK' K';simp only[sE,↓reduceIte,simprocAttr];repeat refine AI ?_
  refine hK _ _ _ ?_;clear hK K;refine aB fun K hK=>?_;refine aB fun K hK=>?_;have key: ∀(b0:Bool) fr ob nx,b0=(eM w&&decide (0<m))→Fits 4 fr ob (fin [(0,.ptr 0 0),(1,.c (.slc (w.map .str))),(7,.eptr 1 (r.length+1) r.length 5 0),(128,.c (.bool b0))]) (fob [(0,.box 100 (rbx n v (.own 1 (r.length+1)) (cN 2 W.length 1 m) d)),(1,.hrow 54 5 (rls r a b c g t.length)),(2,.row 3 1 (W.map iC)),(3,.row 40 7 (t.map Nd.cv))]) 200→K fr ob nx:=by
   rintro b0 fr ob nx rfl hf;refine hK _ _ _ (bH hf ?_);clear hf hK K;refine aG (b:=(eM w&&decide (0<m))) rfl (fun hb=>?_) (fun hb=>?_)
   ·
    obtain⟨he,hm0⟩:eM w=true∧0<m:=by simpa using hb
    clear hb;have hw2:IntKind.i64.wrap ((m:Int)-1)=((m-1:Nat):Int):=by rw[cQ _ (by omega)];omega
    have hs:cS w false ⟨n,v,r++[⟨a,b,c,g,t⟩],W.take m,d⟩=some ⟨n,v,r++[⟨a,b,c,g,t⟩],W.take (m-1),d⟩:=by
     have hne:=aI8 hm0 hm;unfold cS;rw[if_neg (by decide),if_neg (fun h=>hne h.2),if_pos ⟨he,hne⟩];simp only[List.dropLast_eq_take,List.length_take,List.take_take,Nat.min_eq_left hm,Nat.min_eq_left (Nat.sub_le m 1)]
    by_cases hmW:m=W.length
    ·
     refine aB fun K hK=>cY mixed [(0,[],[]),(1,[],[]),(2,[],[]),(3,[],[]),(4,[],[]),(5,[],[]),(6,[],[]),(7,[],[]),(8,[],[]),(9,[],[]),(10,[],[]),(11,[],[]),(12,[],[]),(13,[],[]),(14,[],[])] [0,0,2,6,14,0,32,96,224,480,992,2046,4095,8191,16383] (by kernel_rfl) (by kernel_rfl) (by kernel_rfl) (by kernel_rfl) rfl (by kernel_rfl) ?_;iterate 15
      (refine bW (g:=none) rfl rfl fun K' hK'=>?_;simp only[sH,↓sP,sA,tyS,simprocAttr,rbx,aW,aX,aQ,aM,←hmW,List.length_map,hw2,Int.natCast_nonneg,Int.ofNat_le,(show m-1≤m by omega)];(repeat refine AI ?_);refine hK' _ _ ?_;clear hK' K')
     simp only[sE,↓reduceIte,simprocAttr];repeat refine AI ?_
     refine hK _ _ _ ?_;clear hK K;refine aB fun K hK=>aK (by kernel_rfl) ?_;simp (maxSteps:=4000000) only[↓sP,sA,tyS,simprocAttr];repeat refine AI ?_
     refine hK _ _ _ ?_;clear hK K;refine aE ?_;simp (maxSteps:=4000000) only[fW,Tryz.results65,fK,fV,fC,↓sP,sA,tyS,simprocAttr];refine sI (b0:= .bool true) (n:=n) (v:=v) (r:=r) (a:=a) (b:=b) (c:=c) (g:=g) (t:=t) (W:=W) (m:=m-1) (d:=d) rfl (by rw[bA (show m-1≠W.length by omega)];simp[fob_at,upd_at,rbx,←hmW,HV.norm,HV.toC,HV.toCL]) rfl rfl rfl ⟨by rw[hs]<;>rfl,by rw[hs];exact⟨t,W,m-1,d,rfl,rfl,by omega,by omega,by omega,fun i hi=>ho i (List.mem_of_mem_take (by rw[List.take_take,Nat.min_eq_left (Nat.sub_le _ _)];exact hi)),fun x hx=>⟨(hc x hx).1,by have:=(hc x hx).2;omega⟩⟩⟩
    have hWp:0<W.length:=by omega
    have hmm:m-1≤m:=by omega
    have hmw:m-1≤W.length:=by omega
    refine aB fun K hK=>cY mixed [(0,[],[]),(1,[],[]),(2,[],[]),(3,[],[]),(4,[],[]),(5,[],[]),(6,[],[]),(7,[],[]),(8,[],[]),(9,[],[]),(10,[],[]),(11,[],[]),(12,[],[]),(13,[],[]),(14,[],[])] [0,0,2,6,14,0,32,96,224,480,992,2046,4095,8191,16383] (by kernel_rfl) (by kernel_rfl) (by kernel_rfl) (by kernel_rfl) rfl (by kernel_rfl) ?_;iterate 11
     (refine bW (g:=none) rfl rfl fun K' hK'=>?_;simp only[sH,↓sP,sA,tyS,simprocAttr,rbx,aX,aQ,aM,bA hmW,List.length_map,hWp,hm,Nat.zero_le,List.length_take,List.length_drop,Nat.sub_zero,Nat.min_eq_left hm,hw2,Int.natCast_nonneg,Int.ofNat_le,hmm,hmw];(repeat refine AI ?_);refine hK' _ _ ?_;clear hK' K')
    refine bF (g:=none) rfl rfl fun K' hK'=>?_;simp (maxSteps:=4000000) only[sN,↓hopH.eq_def,sH,↓sP,sA,tyS,simprocAttr,rbx,aX,aQ,aM,bA hmW,List.length_map,hWp,hm,Nat.zero_le,List.length_take,List.length_drop,Nat.sub_zero,Nat.min_eq_left hm,hw2,Int.natCast_nonneg,Int.ofNat_le,hmm,hmw];repeat refine AI ?_
    refine hK' _ _ ?_;clear hK' K';iterate 3
     (refine bW (g:=none) rfl rfl fun K' hK'=>?_;simp only[sH,↓sP,sA,tyS,simprocAttr,rbx,aX,aQ,aM,bA hmW,List.length_map,hWp,hm,Nat.zero_le,List.length_take,List.length_drop,Nat.sub_zero,Nat.min_eq_left hm,hw2,Int.natCast_nonneg,Int.ofNat_le,hmm,hmw];(repeat refine AI ?_);refine hK' _ _ ?_;clear hK' K')
    simp only[sE,↓reduceIte,simprocAttr];repeat refine AI ?_
    refine hK _ _ _ ?_;clear hK K;refine aB fun K hK=>aK (by kernel_rfl) ?_;simp (maxSteps:=4000000) only[↓sP,sA,tyS,simprocAttr];repeat refine AI ?_
    refine hK _ _ _ ?_;clear hK K;refine aE ?_;simp (maxSteps:=4000000) only[fW,Tryz.results65,fK,fV,fC,↓sP,sA,tyS,simprocAttr];refine sI (b0:= .bool true) (n:=n) (v:=v) (r:=r) (a:=a) (b:=b) (c:=c) (g:=g) (t:=t) (W:=W) (m:=m-1) (d:=d) rfl (by rw[bA (show m-1≠W.length by omega)];simp[fob_at,upd_at,rbx,HV.norm,HV.toC,HV.toCL]) rfl rfl rfl ⟨by rw[hs]<;>rfl,by rw[hs];exact⟨t,W,m-1,d,rfl,rfl,by omega,by omega,by omega,fun i hi=>ho i (by rw[←Nat.min_eq_left (Nat.sub_le m 1),←List.take_take]at hi;exact List.mem_of_mem_take hi),fun x hx=>⟨(hc x hx).1,by have:=(hc x hx).2;omega⟩⟩⟩
   have hnend: ¬(eM w=true∧0<m):=by simpa using hb
   clear hb;have hs:cS w false ⟨n,v,r++[⟨a,b,c,g,t⟩],W.take m,d⟩=(dB w).map fun nd=>⟨n,v,r++[⟨a,b,c,g,iX t (W.take m)++[nd]⟩],if nd.k=1 then W.take m else W.take m++[t.length],false⟩:=by
    unfold cS;rw[if_neg (by decide),if_neg (fun h=>hd.elim (fun e=>by rw[e]at h;cases h.1) (fun h0=>aI8 h0 hm h.2)),if_neg (fun h=>hnend ⟨h.1,Nat.pos_of_ne_zero fun e=>h.2 (by rw[e];rfl)⟩)];simp only[tP,qD]
   refine aJ ?_;simp (maxSteps:=4000000) only[↓sP,sA,tyS,simprocAttr];repeat refine AI ?_
   refine hK _ _ _ ?_;clear hK K;refine aB fun K hK=>aK (by kernel_rfl) ?_;simp only[sR,simprocAttr];refine aP (g:=none) rfl rfl fun K' hK'=>?_;simp (maxSteps:=4000000) only[sH,↓sP,sA,tyS,simprocAttr];repeat refine AI ?_
   refine hK' _ _ ?_;clear hK' K';refine aP (g:=none) rfl rfl fun K' hK'=>?_;simp (maxSteps:=4000000) only[sH,↓sP,sA,tyS,simprocAttr];refine wX (args:=[_]) (bL5 w hw) ⟨rfl,rfl,rfl,rfl⟩ ?_;rintro u v' ⟨nd,b0,rfl,rfl,hnd⟩;repeat refine AI ?_
   refine hK' _ _ ?_;clear hK' K';iterate 6
    (refine aP (g:=none) rfl rfl fun K' hK'=>?_;simp only[sH,↓sP,sA,tyS,simprocAttr];(repeat refine AI ?_);refine hK' _ _ ?_;clear hK' K')
   simp only[sE,↓reduceIte,simprocAttr];repeat refine AI ?_
   refine hK _ _ _ ?_;clear hK K;refine aB fun K hK=>?_;refine aB fun K hK=>aK (by kernel_rfl) ?_;simp (maxSteps:=4000000) only[↓sP,sA,tyS,simprocAttr];repeat refine AI ?_
   refine hK _ _ _ ?_;clear hK K;refine aG (b:=!b0) rfl (fun hb=>?_) (fun hb=>?_)
   ·
    have hn:dB w=none:=by
     cases h:dB w with
     |none=>rfl
     |some x=>rw[hnd.1,h]at hb;simp at hb
    refine aB fun K hK=>aK (by kernel_rfl) ?_;simp (maxSteps:=4000000) only[↓sP,sA,tyS,simprocAttr];repeat refine AI ?_
    refine hK _ _ _ ?_;clear hK K;refine aE ?_;simp (maxSteps:=4000000) only[fW,Tryz.results65,fK,fV,fC,↓sP,sA,tyS,simprocAttr];exact sI (b0:= .bool false) rfl rfl rfl rfl rfl ⟨by rw[hs,hn]<;>rfl,by rw[hs,hn];rfl⟩
   have hsn:dB w=some nd:=by
    cases h:dB w with
    |none=>rw[hnd.1,h]at hb;simp at hb
    |some x=>rw[hnd.2 x h]
   have hnc:=cF5 hsn;rw[hsn,Option.map_some]at hs;clear hb hnd;refine aJ ?_;simp (maxSteps:=4000000) only[↓sP,sA,tyS,simprocAttr];repeat refine AI ?_
   refine hK _ _ _ ?_;clear hK K;refine aB fun K hK=>?_;have key: ∀(t':List Nd) fr ob nx,t'=iX t (W.take m)→t'.length=t.length→(∀x∈t',0≤x.c∧x.c≤B+1)→Fits 4 fr ob (fin [(0,.ptr 0 0),(7,.eptr 1 (r.length+1) r.length 5 0),(8,.ptr 220 0)]) (fob [(0,.box 100 (rbx n v (.own 1 (r.length+1)) (cN 2 W.length 1 m) d)),(1,.hrow 54 5 (rls r a b c g t.length)),(2,.row 3 1 (W.map iC)),(3,.row 40 7 (t'.map Nd.cv)),(220,.box 40 (.c nd.cv))]) 400→K fr ob nx:=by
    rintro t' fr ob nx ht1 ht2 hc2 hf;refine hK _ _ _ (bH hf ?_);clear hf hK K;refine aB fun K hK=>aK (by kernel_rfl) ?_;simp only[sR,simprocAttr];iterate 4
     (refine aP (g:=none) rfl rfl fun K' hK'=>?_;simp only[sH,↓sP,sA,tyS,simprocAttr,rbx,aX,aQ,aM];(repeat refine AI ?_);refine hK' _ _ ?_;clear hK' K')
    simp only[sE,↓reduceIte,simprocAttr];repeat refine AI ?_
    refine hK _ _ _ ?_;clear hK K;refine aB fun K hK=>cY mixed [(0,[],[]),(1,[],[]),(2,[],[]),(3,[],[]),(4,[],[]),(5,[],[]),(6,[],[]),(7,[],[0]),(8,[],[]),(9,[],[]),(10,[],[])] [0,0,2,6,14,0,32,126,255,511,1023] (by kernel_rfl) (by kernel_rfl) (by kernel_rfl) (by kernel_rfl) rfl (by kernel_rfl) ?_;iterate 2
     (refine bW (g:=none) rfl rfl fun K' hK'=>?_;simp only[sH,↓sP,sA,tyS,simprocAttr,cM,mS,List.length_map,List.length_append,List.length_cons,List.length_nil,Nat.zero_add,ht2,Nat.lt_succ_self];(repeat refine AI ?_);refine hK' _ _ ?_;clear hK' K')
    refine bF (g:=none) rfl rfl fun K' hK'=>?_;simp (maxSteps:=4000000) only[sN,↓hopH.eq_def,sH,↓sP,sA,tyS,simprocAttr,cM,mS,List.length_map,List.length_append,List.length_cons,List.length_nil,Nat.zero_add,ht2,Nat.lt_succ_self];repeat refine AI ?_
    refine hK' _ _ ?_;clear hK' K';refine bF (g:=none) rfl rfl fun K' hK'=>?_;simp (maxSteps:=4000000) only[sN,↓hopH.eq_def,sH,↓sP,sA,tyS,simprocAttr,cM,mS,List.length_map,List.length_append,List.length_cons,List.length_nil,Nat.zero_add,ht2,Nat.lt_succ_self];repeat refine AI ?_
    refine hK' _ _ ?_;clear hK' K';refine bF (g:=none) rfl rfl fun K' hK'=>?_;simp (maxSteps:=4000000) only[sN,↓hopH.eq_def,sH,↓sP,sA,tyS,simprocAttr,cM,mS,List.length_map,List.length_append,List.length_cons,List.length_nil,Nat.zero_add,ht2,Nat.lt_succ_self];repeat refine AI ?_
    refine hK' _ _ ?_;clear hK' K';iterate 3
     (refine bW (g:=none) rfl rfl fun K' hK'=>?_;simp only[sH,↓sP,sA,tyS,simprocAttr,cM,mS,List.length_map,List.length_append,List.length_cons,List.length_nil,Nat.zero_add,ht2,Nat.lt_succ_self];(repeat refine AI ?_);refine hK' _ _ ?_;clear hK' K')
    refine bF (g:=none) rfl rfl fun K' hK'=>?_;simp (maxSteps:=4000000) only[sN,↓hopH.eq_def,sH,↓sP,sA,tyS,simprocAttr,cM,mS,List.length_map,List.length_append,List.length_cons,List.length_nil,Nat.zero_add,ht2,Nat.lt_succ_self];repeat refine AI ?_
    refine hK' _ _ ?_;clear hK' K';refine bF (g:=none) rfl rfl fun K' hK'=>?_;simp (maxSteps:=4000000) only[sN,↓hopH.eq_def,sH,↓sP,sA,tyS,simprocAttr,cM,mS,List.length_map,List.length_append,List.length_cons,List.length_nil,Nat.zero_add,ht2,Nat.lt_succ_self];repeat refine AI ?_
    refine hK' _ _ ?_;clear hK' K';refine bF (g:=none) rfl rfl fun K' hK'=>?_;simp (maxSteps:=4000000) only[sN,↓hopH.eq_def,sH,↓sP,sA,tyS,simprocAttr,cM,mS,List.length_map,List.length_append,List.length_cons,List.length_nil,Nat.zero_add,ht2,Nat.lt_succ_self];repeat refine AI ?_
    refine hK' _ _ ?_;clear hK' K';simp only[sE,↓reduceIte,simprocAttr];repeat refine AI ?_
    refine hK _ _ _ ?_;clear hK K;refine aB fun K hK=>?_;have key3: ∀(W':List Nat) (m':Nat) fr ob nx,W'.take m'=(if nd.k=1 then W.take m else W.take m++[t.length])→m'≤W'.length→W'.length≤W.length+1→Fits 4 fr ob (fin [(0,.ptr 0 0)]) (fob [(0,.box 100 (rbx n v (.own 1 (r.length+1)) (cN 2 W'.length 1 m') false)),(1,.hrow 54 5 (rls r a b c g (t.length+1))),(2,.row 3 1 (W'.map iC)),(3,.row 40 7 ((t'++[nd]).map Nd.cv))]) 900→K fr ob nx:=by
     rintro W' m' fr ob nx hW1 hW2 hW3 hf;refine hK _ _ _ (bH hf ?_);clear hf hK K;refine aB fun K hK=>aK (by kernel_rfl) ?_;simp (maxSteps:=4000000) only[↓sP,sA,tyS,simprocAttr];repeat refine AI ?_
     refine hK _ _ _ ?_;clear hK K;refine aE ?_;simp (maxSteps:=4000000) only[fW,Tryz.results65,fK,fV,fC,↓sP,sA,tyS,simprocAttr];have hl:(t'++[nd]).length=t.length+1:=by simp[ht2]
     refine sI (b0:= .bool true) (n:=n) (v:=v) (r:=r) (a:=a) (b:=b) (c:=c) (g:=g) (t:=t'++[nd]) (W:=W') (m:=m') (d:=false) rfl rfl (by rw[hl];rfl) rfl rfl ⟨by rw[hs]<;>rfl,by
      rw[hs];refine⟨t'++[nd],W',m',false,by rw[ht1,hW1],rfl,hW2,hW3,by omega,fun i hi=>?_,fun x hx=>?_⟩
      ·
       rw[hW1]at hi;rw[hl];split at hi
       · have:=ho i hi;omega
       rcases List.mem_append.1 hi with h|h
       · have:=ho i h;omega
       have:=List.mem_singleton.1 h;omega
      rcases List.mem_append.1 hx with h|h
      · exact hc2 x h
      rw[List.mem_singleton.1 h,hnc];omega⟩
    refine aB fun K hK=>aK (by kernel_rfl) ?_;simp (maxSteps:=4000000) only[↓sP,sA,tyS,simprocAttr];repeat refine AI ?_
    refine hK _ _ _ ?_;clear hK K;refine aG (b:=(nd.k !=1)) rfl (fun hb=>?_) (fun hb=>?_)
    ·
     have hk1:nd.k≠1:=by simpa using hb
     clear hb;have hw3:IntKind.i64.wrap (((t.length+1:Nat):Int)-1)=(t.length:Int):=by rw[cQ _ (by omega)];omega
     by_cases hmW:m=W.length
     ·
      refine cY mixed [(0,[],[]),(1,[],[]),(2,[],[]),(3,[],[]),(4,[],[]),(5,[],[]),(6,[],[]),(7,[],[]),(8,[],[]),(9,[],[]),(10,[],[]),(11,[],[]),(12,[],[0]),(13,[],[]),(14,[],[]),(15,[],[])] [0,0,2,6,14,0,32,96,224,480,992,2016,4094,8191,16383,32767] (by kernel_rfl) (by kernel_rfl) (by kernel_rfl) (by kernel_rfl) rfl (by kernel_rfl) ?_;iterate 6
       (refine bW (g:=none) rfl rfl fun K' hK'=>?_;simp only[sH,↓sP,sA,tyS,simprocAttr,rbx,aW,aX,aQ,aM,←hmW,List.length_map,List.length_append,List.length_cons,List.length_nil,Nat.zero_add,cM,ht2,hw3];(repeat refine AI ?_);refine hK' _ _ ?_;clear hK' K')
      refine bF (g:=none) rfl rfl fun K' hK'=>?_;simp (maxSteps:=4000000) only[sN,↓hopH.eq_def,sH,↓sP,sA,tyS,simprocAttr,rbx,aW,aX,aQ,aM,←hmW,List.length_map,List.length_append,List.length_cons,List.length_nil,Nat.zero_add,cM,ht2,hw3];repeat refine AI ?_
      refine hK' _ _ ?_;clear hK' K';refine bF (g:=none) rfl rfl fun K' hK'=>?_;simp (maxSteps:=4000000) only[sN,↓hopH.eq_def,sH,↓sP,sA,tyS,simprocAttr,rbx,aW,aX,aQ,aM,←hmW,List.length_map,List.length_append,List.length_cons,List.length_nil,Nat.zero_add,cM,ht2,hw3];repeat refine AI ?_
      refine hK' _ _ ?_;clear hK' K';refine bF (g:=none) rfl rfl fun K' hK'=>?_;simp (maxSteps:=4000000) only[sN,↓hopH.eq_def,sH,↓sP,sA,tyS,simprocAttr,rbx,aW,aX,aQ,aM,←hmW,List.length_map,List.length_append,List.length_cons,List.length_nil,Nat.zero_add,cM,ht2,hw3];repeat refine AI ?_
      refine hK' _ _ ?_;clear hK' K';iterate 7
       (refine bW (g:=none) rfl rfl fun K' hK'=>?_;simp only[sH,↓sP,sA,tyS,simprocAttr,rbx,aW,aX,aQ,aM,←hmW,List.length_map,List.length_append,List.length_cons,List.length_nil,Nat.zero_add,cM,ht2,hw3];(repeat refine AI ?_);refine hK' _ _ ?_;clear hK' K')
      simp only[sE,↓reduceIte,simprocAttr];exact key3 (W++[t.length]) (m+1) _ _ _ (by rw[if_neg hk1,hmW,List.take_of_length_le (by simp),List.take_of_length_le (Nat.le_refl _)]) (by simp;omega) (by simp) (aL (by omega) (by simp[aY,fin_at,finA_at,upd_at,HV.men,HV.menL,HV.norm,HV.toC,HV.toCL,rbx,aU,bN,HV.menL_append,aM,←hmW,aW,iC,ht2]) (by simp[aZ,fob_at,upd_at,none0_at,bV,HO.men,HV.men,HV.menL,HV.norm,HV.toC,HV.toCL,rbx,aU,bN,HV.menL_append,aM,←hmW,aW,iC,ht2]))
     have hmW2:m+1≤W.length:=by omega
     refine cY mixed [(0,[],[]),(1,[],[]),(2,[],[]),(3,[],[]),(4,[],[]),(5,[],[]),(6,[],[]),(7,[],[]),(8,[],[]),(9,[],[]),(10,[],[]),(11,[],[]),(12,[],[0]),(13,[],[]),(14,[],[]),(15,[],[])] [0,0,2,6,14,0,32,96,224,480,992,2016,4094,8191,16383,32767] (by kernel_rfl) (by kernel_rfl) (by kernel_rfl) (by kernel_rfl) rfl (by kernel_rfl) ?_;iterate 6
      (refine bW (g:=none) rfl rfl fun K' hK'=>?_;simp only[sH,↓sP,sA,tyS,simprocAttr,rbx,bA hmW,aX,aQ,aM,List.length_map,List.length_append,List.length_cons,List.length_nil,Nat.zero_add,cM,ht2,hw3,(show 0<W.length by omega),hmW2];(repeat refine AI ?_);refine hK' _ _ ?_;clear hK' K')
     refine bF (g:=none) rfl rfl fun K' hK'=>?_;simp (maxSteps:=4000000) only[sN,↓hopH.eq_def,sH,↓sP,sA,tyS,simprocAttr,rbx,bA hmW,aX,aQ,aM,List.length_map,List.length_append,List.length_cons,List.length_nil,Nat.zero_add,cM,ht2,hw3,(show 0<W.length by omega),hmW2];repeat refine AI ?_
     refine hK' _ _ ?_;clear hK' K';refine bF (g:=none) rfl rfl fun K' hK'=>?_;simp (maxSteps:=4000000) only[sN,↓hopH.eq_def,sH,↓sP,sA,tyS,simprocAttr,rbx,bA hmW,aX,aQ,aM,List.length_map,List.length_append,List.length_cons,List.length_nil,Nat.zero_add,cM,ht2,hw3,(show 0<W.length by omega),hmW2];repeat refine AI ?_
     refine hK' _ _ ?_;clear hK' K';refine bF (g:=none) rfl rfl fun K' hK'=>?_;simp (maxSteps:=4000000) only[sN,↓hopH.eq_def,sH,↓sP,sA,tyS,simprocAttr,rbx,bA hmW,aX,aQ,aM,List.length_map,List.length_append,List.length_cons,List.length_nil,Nat.zero_add,cM,ht2,hw3,(show 0<W.length by omega),hmW2];repeat refine AI ?_
     refine hK' _ _ ?_;clear hK' K';iterate 3
      (refine bW (g:=none) rfl rfl fun K' hK'=>?_;simp only[sH,↓sP,sA,tyS,simprocAttr,rbx,bA hmW,aX,aQ,aM,List.length_map,List.length_append,List.length_cons,List.length_nil,Nat.zero_add,cM,ht2,hw3,(show 0<W.length by omega),hmW2];(repeat refine AI ?_);refine hK' _ _ ?_;clear hK' K')
     refine bF (g:=none) rfl rfl fun K' hK'=>?_;simp (maxSteps:=4000000) only[sN,↓hopH.eq_def,sH,↓sP,sA,tyS,simprocAttr,rbx,bA hmW,aX,aQ,aM,List.length_map,List.length_append,List.length_cons,List.length_nil,Nat.zero_add,cM,ht2,hw3,(show 0<W.length by omega),hmW2];repeat refine AI ?_
     refine hK' _ _ ?_;clear hK' K';iterate 3
      (refine bW (g:=none) rfl rfl fun K' hK'=>?_;simp only[sH,↓sP,sA,tyS,simprocAttr,rbx,bA hmW,aX,aQ,aM,List.length_map,List.length_append,List.length_cons,List.length_nil,Nat.zero_add,cM,ht2,hw3,(show 0<W.length by omega),hmW2];(repeat refine AI ?_);refine hK' _ _ ?_;clear hK' K')
     simp only[sE,↓reduceIte,simprocAttr];have hl:(W.take m++[t.length]++W.drop (m+1)).length=W.length:=by simp;omega
     exact key3 (W.take m++[t.length]++W.drop (m+1)) (m+1) _ _ _ (by rw[if_neg hk1,List.take_append_of_le_length (by simp;omega),List.take_of_length_le (by simp;omega)]) (by rw[hl];exact hmW2) (by rw[hl];omega) (by
      rw[hl];exact aL (by omega) (by simp[aY,fin_at,finA_at,upd_at,HV.men,HV.menL,HV.norm,HV.toC,HV.toCL,rbx,aU,bN,HV.menL_append,aM,iC,ht2,List.map_take,List.map_drop]) (by simp[aZ,fob_at,upd_at,none0_at,bV,HO.men,HV.men,HV.menL,HV.norm,HV.toC,HV.toCL,rbx,aU,bN,HV.menL_append,aM,iC,ht2,List.map_take,List.map_drop]))
    refine aJ ?_;simp (maxSteps:=4000000) only[↓sP,sA,tyS,simprocAttr];have hk1:nd.k=1:=by simpa using hb
    exact key3 W m _ _ _ (by rw[if_pos hk1]) hm (by omega) (aL (by omega) (by simp[aY,fin_at,finA_at,upd_at,HV.men,HV.menL,HV.norm,HV.toC,HV.toCL,rbx,aU,bN,HV.menL_append,aM,ht2]) (by simp[aZ,fob_at,upd_at,none0_at,bV,HO.men,HV.men,HV.menL,HV.norm,HV.toC,HV.toCL,rbx,aU,bN,HV.menL_append,aM,ht2]))
   refine aB fun K hK=>?_;have key2: ∀(b0:Bool) fr ob nx,b0=decide (0<m)→Fits 4 fr ob (fin [(0,.ptr 0 0),(7,.eptr 1 (r.length+1) r.length 5 0),(8,.ptr 220 0),(155,.c (.bool b0))]) (fob [(0,.box 100 (rbx n v (.own 1 (r.length+1)) (cN 2 W.length 1 m) d)),(1,.hrow 54 5 (rls r a b c g t.length)),(2,.row 3 1 (W.map iC)),(3,.row 40 7 (t.map Nd.cv)),(220,.box 40 (.c nd.cv))]) 300→K fr ob nx:=by
    rintro b0 fr ob nx rfl hf;refine hK _ _ _ (bH hf ?_);clear hf hK K;refine aG (b:=decide (0<m)) rfl (fun hb=>?_) (fun hb=>?_)
    ·
     have hm0:0<m:=by simpa using hb
     clear hb;obtain⟨x,hx⟩: ∃x,x=W[m-1]'(by omega):=⟨_,rfl⟩;have hxt:x<t.length:=ho x (by rw[hx,List.mem_take_iff_getElem];exact⟨m-1,by omega,rfl⟩);have hm1:m-1<W.length:=by omega
     have hne:(t=[])=False:=by rw[eq_iff_iff,iff_false];rintro rfl;exact absurd hxt (Nat.not_lt_zero _)
     have hxW:nth (W.map iC) (m-1)=iC x:=by rw[bR hm1,hx]
     have hw2:IntKind.i64.wrap ((m:Int)-1)=((m-1:Nat):Int):=by rw[cQ _ (by omega)];omega
     have hwc:IntKind.i64.wrap (t[x].c+1)=t[x].c+1:=by
      have:=hc _ (List.getElem_mem hxt);exact cQ _ (by omega)
     by_cases hmW:m=W.length
     ·
      have hmm:m-1<m:=by omega
      refine cY mixed [(0,[],[]),(1,[],[]),(2,[],[]),(3,[],[]),(4,[],[]),(5,[],[]),(6,[],[]),(7,[],[]),(8,[],[]),(9,[],[]),(10,[],[]),(11,[],[]),(12,[],[]),(13,[],[]),(14,[],[]),(15,[],[]),(16,[],[]),(17,[],[]),(18,[],[]),(19,[],[]),(20,[],[]),(21,[],[]),(22,[],[])] [0,1,3,7,0,16,48,112,0,256,768,1792,3840,7936,16368,32752,65535,131071,262143,524287,1048575,2097151,4194303] (by kernel_rfl) (by kernel_rfl) (by kernel_rfl) (by kernel_rfl) rfl (by kernel_rfl) ?_;refine bW (g:=none) rfl rfl fun K' hK'=>?_;simp (maxSteps:=4000000) only[sH,↓sP,sA,tyS,simprocAttr,rbx,aW,←hmW,List.length_map,cM,hw2,hxW,iC,Int.natCast_nonneg,Int.ofNat_lt,Int.toNat_natCast,hmm,hxt,bR hxt,hwc,List.map_eq_nil_iff,hne];repeat refine AI ?_
      refine hK' _ _ ?_;clear hK' K';refine bF (g:=none) rfl rfl fun K' hK'=>?_;simp (maxSteps:=4000000) only[sN,↓hopH.eq_def,sH,↓sP,sA,tyS,simprocAttr,rbx,aW,←hmW,List.length_map,cM,hw2,hxW,iC,Int.natCast_nonneg,Int.ofNat_lt,Int.toNat_natCast,hmm,hxt,bR hxt,hwc,List.map_eq_nil_iff,hne];repeat refine AI ?_
      refine hK' _ _ ?_;clear hK' K';refine bF (g:=none) rfl rfl fun K' hK'=>?_;simp (maxSteps:=4000000) only[sN,↓hopH.eq_def,sH,↓sP,sA,tyS,simprocAttr,rbx,aW,←hmW,List.length_map,cM,hw2,hxW,iC,Int.natCast_nonneg,Int.ofNat_lt,Int.toNat_natCast,hmm,hxt,bR hxt,hwc,List.map_eq_nil_iff,hne];repeat refine AI ?_
      refine hK' _ _ ?_;clear hK' K';refine bF (g:=none) rfl rfl fun K' hK'=>?_;simp (maxSteps:=4000000) only[sN,↓hopH.eq_def,sH,↓sP,sA,tyS,simprocAttr,rbx,aW,←hmW,List.length_map,cM,hw2,hxW,iC,Int.natCast_nonneg,Int.ofNat_lt,Int.toNat_natCast,hmm,hxt,bR hxt,hwc,List.map_eq_nil_iff,hne];repeat refine AI ?_
      refine hK' _ _ ?_;clear hK' K';iterate 19
       (refine bW (g:=none) rfl rfl fun K' hK'=>?_;simp only[sH,↓sP,sA,tyS,simprocAttr,rbx,aW,←hmW,List.length_map,cM,hw2,hxW,iC,Int.natCast_nonneg,Int.ofNat_lt,Int.toNat_natCast,hmm,hxt,bR hxt,hwc,List.map_eq_nil_iff,hne];(repeat refine AI ?_);refine hK' _ _ ?_;clear hK' K')
      simp only[sE,↓reduceIte,simprocAttr];exact key (pI t x) _ _ _ (by rw[iX,aD5 hm0 hm,hx]) (by simp[pI]) (bY2 hxt hc) (aL (by omega) (by simp[aY,fin_at,finA_at,upd_at,HV.men,HV.menL,HV.norm,HV.toC,HV.toCL,rbx,aU,bN,HV.menL_append,aM,vS hxt,←hmW,aW]) (by simp[aZ,fob_at,upd_at,none0_at,bV,HO.men,HV.men,HV.menL,HV.norm,HV.toC,HV.toCL,rbx,aU,bN,HV.menL_append,aM,vS hxt,←hmW,aW]))
     have hWp:0<W.length:=by omega
     have hmm:m-1<m:=by omega
     refine cY mixed [(0,[],[]),(1,[],[]),(2,[],[]),(3,[],[]),(4,[],[]),(5,[],[]),(6,[],[]),(7,[],[]),(8,[],[]),(9,[],[]),(10,[],[]),(11,[],[]),(12,[],[]),(13,[],[]),(14,[],[]),(15,[],[]),(16,[],[]),(17,[],[]),(18,[],[]),(19,[],[]),(20,[],[]),(21,[],[]),(22,[],[])] [0,1,3,7,0,16,48,112,0,256,768,1792,3840,7936,16368,32752,65535,131071,262143,524287,1048575,2097151,4194303] (by kernel_rfl) (by kernel_rfl) (by kernel_rfl) (by kernel_rfl) rfl (by kernel_rfl) ?_;refine bW (g:=none) rfl rfl fun K' hK'=>?_;simp (maxSteps:=4000000) only[sH,↓sP,sA,tyS,simprocAttr,rbx,bA hmW,List.length_map,cM,hw2,hxW,iC,Int.natCast_nonneg,Int.ofNat_lt,Int.toNat_natCast,hmm,hm1,hm,hWp,Nat.zero_le,List.length_take,List.length_drop,Nat.sub_zero,Nat.min_eq_left hm,hxt,bR hxt,hwc,List.map_eq_nil_iff,hne];repeat refine AI ?_
     refine hK' _ _ ?_;clear hK' K';refine bF (g:=none) rfl rfl fun K' hK'=>?_;simp (maxSteps:=4000000) only[sN,↓hopH.eq_def,sH,↓sP,sA,tyS,simprocAttr,rbx,bA hmW,List.length_map,cM,hw2,hxW,iC,Int.natCast_nonneg,Int.ofNat_lt,Int.toNat_natCast,hmm,hm1,hm,hWp,Nat.zero_le,List.length_take,List.length_drop,Nat.sub_zero,Nat.min_eq_left hm,hxt,bR hxt,hwc,List.map_eq_nil_iff,hne];repeat refine AI ?_
     refine hK' _ _ ?_;clear hK' K';refine bF (g:=none) rfl rfl fun K' hK'=>?_;simp (maxSteps:=4000000) only[sN,↓hopH.eq_def,sH,↓sP,sA,tyS,simprocAttr,rbx,bA hmW,List.length_map,cM,hw2,hxW,iC,Int.natCast_nonneg,Int.ofNat_lt,Int.toNat_natCast,hmm,hm1,hm,hWp,Nat.zero_le,List.length_take,List.length_drop,Nat.sub_zero,Nat.min_eq_left hm,hxt,bR hxt,hwc,List.map_eq_nil_iff,hne];repeat refine AI ?_
     refine hK' _ _ ?_;clear hK' K';refine bF (g:=none) rfl rfl fun K' hK'=>?_;simp (maxSteps:=4000000) only[sN,↓hopH.eq_def,sH,↓sP,sA,tyS,simprocAttr,rbx,bA hmW,List.length_map,cM,hw2,hxW,iC,Int.natCast_nonneg,Int.ofNat_lt,Int.toNat_natCast,hmm,hm1,hm,hWp,Nat.zero_le,List.length_take,List.length_drop,Nat.sub_zero,Nat.min_eq_left hm,hxt,bR hxt,hwc,List.map_eq_nil_iff,hne];repeat refine AI ?_
     refine hK' _ _ ?_;clear hK' K';iterate 19
      (refine bW (g:=none) rfl rfl fun K' hK'=>?_;simp only[sH,↓sP,sA,tyS,simprocAttr,rbx,bA hmW,List.length_map,cM,hw2,hxW,iC,Int.natCast_nonneg,Int.ofNat_lt,Int.toNat_natCast,hmm,hm1,hm,hWp,Nat.zero_le,List.length_take,List.length_drop,Nat.sub_zero,Nat.min_eq_left hm,hxt,bR hxt,hwc,List.map_eq_nil_iff,hne];(repeat refine AI ?_);refine hK' _ _ ?_;clear hK' K')
     simp only[sE,↓reduceIte,simprocAttr];exact key (pI t x) _ _ _ (by rw[iX,aD5 hm0 hm,hx]) (by simp[pI]) (bY2 hxt hc) (aL (by omega) (by simp[aY,fin_at,finA_at,upd_at,HV.men,HV.menL,HV.norm,HV.toC,HV.toCL,rbx,aU,bN,HV.menL_append,aM,vS hxt,bA hmW]) (by simp[aZ,fob_at,upd_at,none0_at,bV,HO.men,HV.men,HV.menL,HV.norm,HV.toC,HV.toCL,rbx,aU,bN,HV.menL_append,aM,vS hxt,bA hmW]))
    refine aJ ?_;simp (maxSteps:=4000000) only[↓sP,sA,tyS,simprocAttr];exact key t _ _ _ (by rw[show m=0 by simpa using hb];rfl) rfl (fun x hx=>⟨(hc x hx).1,by have:=(hc x hx).2;omega⟩) (aL (by omega) (by simp[aY,fin_at,finA_at,upd_at,HV.men,HV.menL,HV.norm,HV.toC,HV.toCL,rbx,aU,bN,HV.menL_append,aM]) (by simp[aZ,fob_at,upd_at,none0_at,bV,HO.men,HV.men,HV.menL,HV.norm,HV.toC,HV.toCL,rbx,aU,bN,HV.menL_append,aM]))
   by_cases hmW:m=W.length
   ·
    refine aK (by kernel_rfl) ?_;simp only[sR,simprocAttr];iterate 6
     (refine aP (g:=none) rfl rfl fun K' hK'=>?_;simp only[sH,↓sP,sA,tyS,simprocAttr,rbx,hmW,aW,List.length_map];(repeat refine AI ?_);refine hK' _ _ ?_;clear hK' K')
    simp only[sE,↓reduceIte,simprocAttr];exact key2 (decide ((0:Int)<(W.length:Int))) _ _ _ (by simp[hmW]) (aL (by omega) (by simp[aY,fin_at,finA_at,upd_at,HV.men,HV.menL,HV.norm,HV.toC,HV.toCL,rbx,aU,bN,HV.menL_append,aM,hmW,aW]) (by simp[aZ,fob_at,upd_at,none0_at,bV,HO.men,HV.men,HV.menL,HV.norm,HV.toC,HV.toCL,rbx,aU,bN,HV.menL_append,aM,hmW,aW]))
   have hWp:0<W.length:=by omega
   refine aK (by kernel_rfl) ?_;simp only[sR,simprocAttr];iterate 6
    (refine aP (g:=none) rfl rfl fun K' hK'=>?_;simp only[sH,↓sP,sA,tyS,simprocAttr,rbx,bA hmW,List.length_map,hWp,hm,Nat.zero_le,List.length_take,List.length_drop,Nat.sub_zero,Nat.min_eq_left hm];(repeat refine AI ?_);refine hK' _ _ ?_;clear hK' K')
   simp only[sE,↓reduceIte,simprocAttr];exact key2 (decide ((0:Int)<(m:Int))) _ _ _ (by simp) (aL (by omega) (by simp[aY,fin_at,finA_at,upd_at,HV.men,HV.menL,HV.norm,HV.toC,HV.toCL,rbx,aU,bN,HV.menL_append,aM,bA hmW]) (by simp[aZ,fob_at,upd_at,none0_at,bV,HO.men,HV.men,HV.menL,HV.norm,HV.toC,HV.toCL,rbx,aU,bN,HV.menL_append,aM,bA hmW]))
  by_cases hL:w.length=1
  ·
   by_cases hP:wd w 0=wEnd
   ·
    by_cases hmW:m=W.length
    ·
     refine aK (by kernel_rfl) ?_;simp only[sR,simprocAttr];iterate 4
      (refine aP (g:=none) rfl rfl fun K' hK'=>?_;simp only[sH,↓sP,sA,tyS,simprocAttr,rbx,hL,hw0,(show(wd w 0==[101,110,100])=true from by rw[hP];decide),hmW,aW,List.length_map];(repeat refine AI ?_);refine hK' _ _ ?_;clear hK' K')
     iterate 4
      (refine aP (g:=some (115,true)) rfl rfl fun K' hK'=>?_;simp only[sH,↓sP,sA,tyS,simprocAttr,rbx,hL,hw0,(show(wd w 0==[101,110,100])=true from by rw[hP];decide),hmW,aW,List.length_map];(repeat refine AI ?_);refine hK' _ _ ?_;clear hK' K')
     iterate 2
      (refine aP (g:=none) rfl rfl fun K' hK'=>?_;simp only[sH,↓sP,sA,tyS,simprocAttr,rbx,hL,hw0,(show(wd w 0==[101,110,100])=true from by rw[hP];decide),hmW,aW,List.length_map];(repeat refine AI ?_);refine hK' _ _ ?_;clear hK' K')
     iterate 6
      (refine aP (g:=some (121,true)) rfl rfl fun K' hK'=>?_;simp only[sH,↓sP,sA,tyS,simprocAttr,rbx,hL,hw0,(show(wd w 0==[101,110,100])=true from by rw[hP];decide),hmW,aW,List.length_map];(repeat refine AI ?_);refine hK' _ _ ?_;clear hK' K')
     refine aP (g:=none) rfl rfl fun K' hK'=>?_;simp (maxSteps:=4000000) only[sH,↓sP,sA,tyS,simprocAttr,rbx,hL,hw0,(show(wd w 0==[101,110,100])=true from by rw[hP];decide),hmW,aW,List.length_map];repeat refine AI ?_
     refine hK' _ _ ?_;clear hK' K';simp only[sE,↓reduceIte,simprocAttr];exact key (decide ((0:Int)<(W.length:Int))) _ _ _ (by simp[eM,hL,hP,hmW]) (aL (by omega) (by simp[aY,fin_at,finA_at,upd_at,HV.men,HV.menL,HV.norm,HV.toC,HV.toCL,rbx,aU,bN,HV.menL_append,aM,hmW,aW]) (by simp[aZ,fob_at,upd_at,none0_at,bV,HO.men,HV.men,HV.menL,HV.norm,HV.toC,HV.toCL,rbx,aU,bN,HV.menL_append,aM,hmW,aW]))
    have hWp:0<W.length:=by omega
    refine aK (by kernel_rfl) ?_;simp only[sR,simprocAttr];iterate 4
     (refine aP (g:=none) rfl rfl fun K' hK'=>?_;simp only[sH,↓sP,sA,tyS,simprocAttr,rbx,hL,hw0,(show(wd w 0==[101,110,100])=true from by rw[hP];decide),bA hmW,List.length_map,hWp,hm,Nat.zero_le,List.length_take,List.length_drop,Nat.sub_zero,Nat.min_eq_left hm];(repeat refine AI ?_);refine hK' _ _ ?_;clear hK' K')
    iterate 4
     (refine aP (g:=some (115,true)) rfl rfl fun K' hK'=>?_;simp only[sH,↓sP,sA,tyS,simprocAttr,rbx,hL,hw0,(show(wd w 0==[101,110,100])=true from by rw[hP];decide),bA hmW,List.length_map,hWp,hm,Nat.zero_le,List.length_take,List.length_drop,Nat.sub_zero,Nat.min_eq_left hm];(repeat refine AI ?_);refine hK' _ _ ?_;clear hK' K')
    iterate 2
     (refine aP (g:=none) rfl rfl fun K' hK'=>?_;simp only[sH,↓sP,sA,tyS,simprocAttr,rbx,hL,hw0,(show(wd w 0==[101,110,100])=true from by rw[hP];decide),bA hmW,List.length_map,hWp,hm,Nat.zero_le,List.length_take,List.length_drop,Nat.sub_zero,Nat.min_eq_left hm];(repeat refine AI ?_);refine hK' _ _ ?_;clear hK' K')
    iterate 6
     (refine aP (g:=some (121,true)) rfl rfl fun K' hK'=>?_;simp only[sH,↓sP,sA,tyS,simprocAttr,rbx,hL,hw0,(show(wd w 0==[101,110,100])=true from by rw[hP];decide),bA hmW,List.length_map,hWp,hm,Nat.zero_le,List.length_take,List.length_drop,Nat.sub_zero,Nat.min_eq_left hm];(repeat refine AI ?_);refine hK' _ _ ?_;clear hK' K')
    refine aP (g:=none) rfl rfl fun K' hK'=>?_;simp (maxSteps:=4000000) only[sH,↓sP,sA,tyS,simprocAttr,rbx,hL,hw0,(show(wd w 0==[101,110,100])=true from by rw[hP];decide),bA hmW,List.length_map,hWp,hm,Nat.zero_le,List.length_take,List.length_drop,Nat.sub_zero,Nat.min_eq_left hm];repeat refine AI ?_
    refine hK' _ _ ?_;clear hK' K';simp only[sE,↓reduceIte,simprocAttr];exact key (decide ((0:Int)<(m:Int))) _ _ _ (by simp[eM,hL,hP]) (aL (by omega) (by simp[aY,fin_at,finA_at,upd_at,HV.men,HV.menL,HV.norm,HV.toC,HV.toCL,rbx,aU,bN,HV.menL_append,aM,bA hmW]) (by simp[aZ,fob_at,upd_at,none0_at,bV,HO.men,HV.men,HV.menL,HV.norm,HV.toC,HV.toCL,rbx,aU,bN,HV.menL_append,aM,bA hmW]))
   refine aK (by kernel_rfl) ?_;simp only[sR,simprocAttr];iterate 4
    (refine aP (g:=none) rfl rfl fun K' hK'=>?_;simp only[sH,↓sP,sA,tyS,simprocAttr,hL,hw0,(show(wd w 0==[101,110,100])=false from beq_false_of_ne hP)];(repeat refine AI ?_);refine hK' _ _ ?_;clear hK' K')
   iterate 4
    (refine aP (g:=some (115,true)) rfl rfl fun K' hK'=>?_;simp only[sH,↓sP,sA,tyS,simprocAttr,hL,hw0,(show(wd w 0==[101,110,100])=false from beq_false_of_ne hP)];(repeat refine AI ?_);refine hK' _ _ ?_;clear hK' K')
   iterate 2
    (refine aP (g:=none) rfl rfl fun K' hK'=>?_;simp only[sH,↓sP,sA,tyS,simprocAttr,hL,hw0,(show(wd w 0==[101,110,100])=false from beq_false_of_ne hP)];(repeat refine AI ?_);refine hK' _ _ ?_;clear hK' K')
   iterate 6
    (refine aP (g:=some (121,true)) rfl rfl fun K' hK'=>?_;simp only[sH,↓sP,sA,tyS,simprocAttr,hL,hw0,(show(wd w 0==[101,110,100])=false from beq_false_of_ne hP)];(repeat refine AI ?_);refine hK' _ _ ?_;clear hK' K')
   refine aP (g:=none) rfl rfl fun K' hK'=>?_;simp (maxSteps:=4000000) only[sH,↓sP,sA,tyS,simprocAttr,hL,hw0,(show(wd w 0==[101,110,100])=false from beq_false_of_ne hP)];repeat refine AI ?_
   refine hK' _ _ ?_;clear hK' K';simp only[sE,↓reduceIte,simprocAttr];exact key false _ _ _ (by simp[eM,hP]) (aL (by omega) (by simp[aY,fin_at,finA_at,upd_at,HV.men,HV.menL,HV.norm,HV.toC,HV.toCL,rbx,aU,bN,HV.menL_append,aM]) (by simp[aZ,fob_at,upd_at,none0_at,bV,HO.men,HV.men,HV.menL,HV.norm,HV.toC,HV.toCL,rbx,aU,bN,HV.menL_append,aM]))
  refine aK (by kernel_rfl) ?_;simp only[sR,simprocAttr];iterate 4
   (refine aP (g:=none) rfl rfl fun K' hK'=>?_;simp only[sH,↓sP,sA,tyS,simprocAttr,(show((w.length:Int)==1)=false by simp;omega),hw0];(repeat refine AI ?_);refine hK' _ _ ?_;clear hK' K')
  iterate 4
   (refine aP (g:=some (115,true)) rfl rfl fun K' hK'=>?_;simp only[sH,↓sP,sA,tyS,simprocAttr,(show((w.length:Int)==1)=false by simp;omega),hw0];(repeat refine AI ?_);refine hK' _ _ ?_;clear hK' K')
  iterate 2
   (refine aP (g:=none) rfl rfl fun K' hK'=>?_;simp only[sH,↓sP,sA,tyS,simprocAttr,(show((w.length:Int)==1)=false by simp;omega),hw0];(repeat refine AI ?_);refine hK' _ _ ?_;clear hK' K')
  iterate 6
   (refine aP (g:=some (121,true)) rfl rfl fun K' hK'=>?_;simp only[sH,↓sP,sA,tyS,simprocAttr,(show((w.length:Int)==1)=false by simp;omega),hw0];(repeat refine AI ?_);refine hK' _ _ ?_;clear hK' K')
  refine aP (g:=none) rfl rfl fun K' hK'=>?_;simp (maxSteps:=4000000) only[sH,↓sP,sA,tyS,simprocAttr,(show((w.length:Int)==1)=false by simp;omega),hw0];repeat refine AI ?_
  refine hK' _ _ ?_;clear hK' K';simp only[sE,↓reduceIte,simprocAttr];exact key false _ _ _ (by simp[eM,hL]) (aL (by omega) (by simp[aY,fin_at,finA_at,upd_at,HV.men,HV.menL,HV.norm,HV.toC,HV.toCL,rbx,aU,bN,HV.menL_append,aM]) (by simp[aZ,fob_at,upd_at,none0_at,bV,HO.men,HV.men,HV.menL,HV.norm,HV.toC,HV.toCL,rbx,aU,bN,HV.menL_append,aM]))
 by_cases hdd:d=true
 ·
  refine aK (by kernel_rfl) ?_;simp only[sR,simprocAttr];iterate 6
   (refine aP (g:=none) rfl rfl fun K' hK'=>?_;simp only[sH,↓sP,sA,tyS,simprocAttr,rbx,hdd,aX,aQ,aM];(repeat refine AI ?_);refine hK' _ _ ?_;clear hK' K')
  iterate 6
   (refine aP (g:=some (47,true)) rfl rfl fun K' hK'=>?_;simp only[sH,↓sP,sA,tyS,simprocAttr,rbx,hdd,aX,aQ,aM];(repeat refine AI ?_);refine hK' _ _ ?_;clear hK' K')
  refine aP (g:=none) rfl rfl fun K' hK'=>?_;simp (maxSteps:=4000000) only[sH,↓sP,sA,tyS,simprocAttr,rbx,hdd,aX,aQ,aM];repeat refine AI ?_
  refine hK' _ _ ?_;clear hK' K';simp only[sE,↓reduceIte,simprocAttr];exact key _ _ _ (aL (by omega) (by simp[aY,fin_at,finA_at,upd_at,HV.men,HV.menL,HV.norm,HV.toC,HV.toCL,rbx,aU,bN,HV.menL_append,aM,hdd]) (by simp[aZ,fob_at,upd_at,none0_at,bV,HO.men,HV.men,HV.menL,HV.norm,HV.toC,HV.toCL,rbx,aU,bN,HV.menL_append,aM,hdd]))
 by_cases hmW:m=W.length
 ·
  have hd0:d=false:=by simpa using hdd
  have hW0:((W.length:Int)==0)=false:=beq_false_of_ne (by have:=hd.resolve_left hdd;omega);refine aK (by kernel_rfl) ?_;simp only[sR,simprocAttr];iterate 6
   (refine aP (g:=none) rfl rfl fun K' hK'=>?_;simp only[sH,↓sP,sA,tyS,simprocAttr,rbx,hd0,hmW,aW,List.length_map,hW0];(repeat refine AI ?_);refine hK' _ _ ?_;clear hK' K')
  iterate 6
   (refine aP (g:=some (47,true)) rfl rfl fun K' hK'=>?_;simp only[sH,↓sP,sA,tyS,simprocAttr,rbx,hd0,hmW,aW,List.length_map,hW0];(repeat refine AI ?_);refine hK' _ _ ?_;clear hK' K')
  refine aP (g:=none) rfl rfl fun K' hK'=>?_;simp (maxSteps:=4000000) only[sH,↓sP,sA,tyS,simprocAttr,rbx,hd0,hmW,aW,List.length_map,hW0];repeat refine AI ?_
  refine hK' _ _ ?_;clear hK' K';simp only[sE,↓reduceIte,simprocAttr];exact key _ _ _ (aL (by omega) (by simp[aY,fin_at,finA_at,upd_at,HV.men,HV.menL,HV.norm,HV.toC,HV.toCL,rbx,aU,bN,HV.menL_append,aM,(show d=false by simpa using hdd),hmW,aW]) (by simp[aZ,fob_at,upd_at,none0_at,bV,HO.men,HV.men,HV.menL,HV.norm,HV.toC,HV.toCL,rbx,aU,bN,HV.menL_append,aM,(show d=false by simpa using hdd),hmW,aW]))
 have hd0:d=false:=by simpa using hdd
 have hWp:0<W.length:=by omega
 have hm00:((m:Int)==0)=false:=beq_false_of_ne (by have:=hd.resolve_left hdd;omega);refine aK (by kernel_rfl) ?_;simp only[sR,simprocAttr];iterate 6
  (refine aP (g:=none) rfl rfl fun K' hK'=>?_;simp only[sH,↓sP,sA,tyS,simprocAttr,rbx,hd0,bA hmW,List.length_map,hWp,hm,Nat.zero_le,List.length_take,List.length_drop,Nat.sub_zero,Nat.min_eq_left hm,hm00];(repeat refine AI ?_);refine hK' _ _ ?_;clear hK' K')
 iterate 6
  (refine aP (g:=some (47,true)) rfl rfl fun K' hK'=>?_;simp only[sH,↓sP,sA,tyS,simprocAttr,rbx,hd0,bA hmW,List.length_map,hWp,hm,Nat.zero_le,List.length_take,List.length_drop,Nat.sub_zero,Nat.min_eq_left hm,hm00];(repeat refine AI ?_);refine hK' _ _ ?_;clear hK' K')
 refine aP (g:=none) rfl rfl fun K' hK'=>?_;simp (maxSteps:=4000000) only[sH,↓sP,sA,tyS,simprocAttr,rbx,hd0,bA hmW,List.length_map,hWp,hm,Nat.zero_le,List.length_take,List.length_drop,Nat.sub_zero,Nat.min_eq_left hm,hm00];repeat refine AI ?_
 refine hK' _ _ ?_;clear hK' K';simp only[sE,↓reduceIte,simprocAttr];exact key _ _ _ (aL (by omega) (by simp[aY,fin_at,finA_at,upd_at,HV.men,HV.menL,HV.norm,HV.toC,HV.toCL,rbx,aU,bN,HV.menL_append,aM,(show d=false by simpa using hdd),bA hmW]) (by simp[aZ,fob_at,upd_at,none0_at,bV,HO.men,HV.men,HV.menL,HV.norm,HV.toC,HV.toCL,rbx,aU,bN,HV.menL_append,aM,(show d=false by simpa using hdd),bA hmW]))
end Go.Proofs.YtlldglbooaefhaaGreatDoor
namespace Go.Pl
open Go Go.Hl
theorem cF6 (q:Rq):(wlR q).length≤5:=by grind[wlR]
theorem cF7 (n:Nd):(wlN n).length≤5:=by grind[wlN]
theorem vT : ∀(f m:Nat) (l:List Nd),∀x∈eP f m l,x.length≤5
 |0,m,l,x,h=>by simp[eP]at h
 |f+1,0,l,x,h=>by cases l<;>simp[eP]at h
 |f+1,m+1,[],x,h=>by simp[eP]at h
 |f+1,m+1,n::l,x,h=>by
  simp only[eP]at h;split at h
  ·
   rcases List.mem_cons.1 h with rfl|h
   · exact cF6 _
   · exact vT f _ _ x h
  ·
   rcases List.mem_cons.1 h with rfl|h
   · exact cF7 _
   ·
    rcases List.mem_append.1 h with h|h
    · exact vT f _ _ x h
    ·
     rcases List.mem_cons.1 h with rfl|h
     · simp
     · exact vT f _ _ x h
theorem yD (t:List Nd):kH t 0=aX5 t:=by simp[kH,aX5]
def qL (p:Po)(i:Nat):List (List aF):=[wPolicy,p.n,numW p.v]::(p.r.take i).flatMap kG
variable {i:Nat}{p:Po}
theorem aD6 (hi:i<p.r.length):qL p (i+1)=qL p i++kG p.r[i]:=by grind[qL,List.take_succ_eq_append_getElem]
theorem aT0 (p:Po):qL p p.r.length=qB p:=by simp[qL,qB]
theorem bL7 {r:Pr}(h:jE r=true):(kG r).length≤121:=by
 obtain⟨_,ht,_⟩:=lS h;have h0:0<r.t.length:=ht.ne;have h1:=bW9 ht h0;have h2:=(lF ht h0).2.1;have h3:=ht.len;grind[yD,kG,List.length_cons]
theorem aT1 {p:Po}(h: ∀r∈p.r,jE r=true): ∀i,i≤p.r.length→(qL p i).length≤1+121*i
 |0,_=>by simp[qL]
 |i+1,hi=>by
  have:=aT1 h i (by omega);grind[bL7,List.getElem_mem,aD6,List.length_append]
theorem cF8 (p:Po): ∀x∈qB p,x.length<2^40:=by
 intro x hx;have:x.length≤5:=by
  simp only[qB]at hx;rcases List.mem_cons.1 hx with rfl|hx
  · simp
  ·
   obtain⟨r,_,hx⟩:=List.mem_flatMap.1 hx;simp only[kG]at hx;rcases List.mem_cons.1 hx with rfl|hx
   · simp
   · exact vT _ _ _ x hx
 omega
def LsB (ls:List (List aF)):Prop:= ∀l∈ls,∀w∈l,w.length<2^40
variable {ls:List (List aF)}
theorem LsB.drop (h:LsB ls)(j:Nat):LsB (ls.drop j):=fun l hl=>h l (List.mem_of_mem_drop hl)
theorem cL5 {l:List aF}(h: ∀w∈l,w.length<2^40)(i:Nat):(wd l i).length<2^40:=by grind[wd,Nat.lt_or_ge,List.getElem?_eq_getElem,List.getElem_mem,List.getElem?_eq_none]
variable {w:List aF}
theorem cL6 (h: ∀x∈w,x.length<2^40){q:Rq}(hq:dD w=some q):q.t.length<2^40:=by
 have h1:=cL5 h 1;have hm: ∀(k:Int) (o:Option Int),o.map (fun n=>(⟨k,n,0,[]⟩:Rq))=some q→q.t.length<2^40:=fun k o ho=>by
  cases o with
  |none=>grind
  |some n=>grind
 unfold dD at hq;split at hq
 · exact hm _ _ hq
 ·
  split at hq
  · grind
  ·
   split at hq
   · exact hm _ _ hq
   ·
    split at hq
    · grind
    ·
     split at hq
     · exact hm _ _ hq
     ·
      split at hq
      · exact hm _ _ hq
      ·
       split at hq
       · exact hm _ _ hq
       grind
theorem cL7 {n:Nd}(h:dZ w=some n):n.q=rq0:=by grind[dZ,bL,wd]
theorem cQ1 : ∀f,(∀ls,LsB ls→ ∀t,(rdN f ls).1=some t→ ∀n∈t,n.q.t.length<2^40)∧(∀ls,LsB ls→ ∀p,(rdK f ls).1=some p→ ∀n∈p.1,n.q.t.length<2^40)
 |0=>⟨fun ls _ t h=>by simp[rdN]at h,fun ls _ t h=>by simp[rdK]at h⟩
 |f+1=>by
  obtain⟨ihN,ihK⟩:=cQ1 f;refine⟨fun ls hb t h=>?_,fun ls hb p h=>?_⟩
  ·
   match ls with
   |[]=>simp[rdN]at h
   |w::r=>
    cases h1:dD w with
    |some q=>
     rw[oD h1]at h;cases h;intro n hn;rw[List.mem_singleton]at hn;subst hn;exact cL6 (hb w (by simp)) h1
    |none=>
     cases h2:dZ w with
     |none=>grind[oE]
     |some n=>
      rw[pD h1 h2]at h;cases hk:(rdK f r).1 with
      |none=>simp[yX,hk]at h
      |some p=>
       simp only[yX,hk,Option.map_some,Option.some.injEq]at h;subst h;intro x hx;rcases List.mem_cons.1 hx with rfl|hx
       · grind[cL7,rq0]
       · exact ihK r (fun l hl=>hb l (by grind)) p hk x hx
  ·
   cases he:eM (ls.headD [])with
   |true=>grind[aI1]
   |false=>
    match h2:rdN f ls with
    |(none,r)=>simp_all[aY4]
    |(some t,r)=>
     rw[yB he h2]at h;obtain⟨j,hj,_⟩:=(aI2 f).1 ls;rw[h2]at hj;have hj':r=ls.drop j:=hj;cases hk:(rdK f r).1 with
     |none=>simp[qJ,hk]at h
     |some q=>
      simp only[qJ,hk,Option.map_some,Option.some.injEq]at h;subst h;intro x hx;rcases List.mem_append.1 hx with hx|hx
      · grind
      · exact ihK r (by rw[hj'];exact hb.drop j) q hk x hx
def cL8 (r:Pr):Prop:=r.a.length<2^40∧ ∀n∈r.t,n.q.t.length<2^63
theorem cQ2 (hb:LsB ls){x:Pr}(h:(rdR ls).1=some x):cL8 x:=by
 match ls with
 |[]=>cases h
 |w::r=>
  simp only[rdR]at h;split at h
  ·
   cases hn:bL (wd w 4)with
   |none=>grind
   |some g=>
    rw[hn]at h;simp only at h
    match hm:rdT r with
    |(none,r')=>grind
    |(some t,r')=>
     rw[hm]at h;cases h;have h1:=(cQ1 (2*r.length+2)).1 r (fun l hl=>hb l (by grind)) t (by grind[rdT]);exact⟨cL5 (hb w (by simp)) 1,fun n hn=>Nat.lt_trans (h1 n hn) (by decide)⟩
  grind
theorem bY3 : ∀(f:Nat) (ls:List (List aF)) (acc:List Pr),LsB ls→(∀r∈acc,cL8 r)→ ∀l,(jM f ls acc).1=some l→(∀r∈l,cL8 r)∧l.length≤acc.length+f
 |0,ls,acc,_,_,l,h=>by simp[jM]at h
 |f+1,ls,acc,hb,ha,l,h=>by
  simp only[jM]at h;split at h
  · grind
  ·
   match hm:rdR ls with
   |(none,r)=>grind
   |(some x,r)=>
    rw[hm]at h;obtain⟨j,_,hj,_⟩:=aI3 ls;rw[hm]at hj;have hj':r=ls.drop j:=hj;have hx:=cQ2 hb (x:=x) (by rw[hm]);obtain⟨h1,h2⟩:=bY3 f r (acc++[x]) (by rw[hj'];exact hb.drop j) (fun y hy=>by grind) l h;grind
theorem cI2 (hb:LsB ls)(hl:ls.length<2^39)(h:(rdP ls).1=some p):PoSz p:=by
 match ls with
 |[]=>cases h
 |w::r=>
  simp only[rdP]at h;split at h
  ·
   cases hn:bL (wd w 2)with
   |none=>grind
   |some v=>
    rw[hn]at h;simp only at h
    match hm:jM (r.length+1) r []with
    |(none,r')=>grind
    |(some l,r')=>
     rw[hm]at h;cases h;obtain⟨h1,h2⟩:=bY3 (r.length+1) r [] (fun x hx=>hb x (by grind)) (by simp) l (by rw[hm]);simp only[List.length_cons,List.length_nil]at hl h2;exact⟨Nat.lt_of_lt_of_le (cL5 (hb w (by simp)) 1) (by decide),by grind,fun x hx=>Nat.lt_of_lt_of_le (h1 x hx).1 (by decide),fun x hx=>(h1 x hx).2⟩
  grind
abbrev zM :Ms:=⟨[],0,[],[],false⟩
def RunM (ls:List (List aF))(i:Nat)(x:Ms):Prop:=
 (i=0∧x=zM)∨(0<i∧ ∃y,cS (ls.headD []) true zM=some y∧goM (ls.drop 1) y=goM (ls.drop i) x)
theorem RunM.first (hl:0<ls.length){y:Ms}(h:cS ls[0] true zM=some y):RunM ls 1 y:=by
 cases ls with
 |nil=>simp at hl
 |cons w r=>exact .inr ⟨by omega,y,h,rfl⟩
variable {x:Ms}
theorem RunM.next {y:Ms}(h:RunM ls i x)(h0:0<i)(hi:i<ls.length)(hs:cS ls[i] false x=some y):RunM ls (i+1) y:=by
 rcases h with h|⟨_,z,e1,e2⟩
 · omega
 · refine .inr ⟨by omega,z,e1,?_⟩;rw[e2,List.drop_eq_getElem_cons hi,xS hs]
theorem RunM.no0 (hl:0<ls.length)(h:cS ls[0] true zM=none):rdP ls=(none,ls.drop 0):=by
 cases ls with
 |nil=>simp at hl
 |cons w r=>
  simp only[List.getElem_cons_zero]at h;rw[←aH2];unfold bT9;simp only[h,List.drop_zero]
theorem RunM.no (h:RunM ls i x)(h0:0<i)(hi:i<ls.length)(hs:cS ls[i] false x=none):rdP ls=(none,ls.drop i):=by
 rcases h with h|⟨_,z,e1,e2⟩
 · omega
 ·
  rw[List.drop_eq_getElem_cons hi,aH0 hs,←List.drop_eq_getElem_cons hi]at e2;cases ls with
  |nil=>simp at hi
  |cons w r=>
   simp only[List.headD_cons]at e1;rw[←aH2];unfold bT9;simp only[e1];rw[List.drop_one,List.tail_cons]at e2;rw[e2]
theorem RunM.done (h:RunM ls ls.length x)(h0:0<ls.length):rdP ls=if x.d=true∨x.o≠[]then(none,[])else(some ⟨x.n,x.v,x.r⟩,[]):=by
 rcases h with h|⟨_,z,e1,e2⟩
 · omega
 ·
  rw[List.drop_length]at e2;cases ls with
  |nil=>simp at h0
  |cons w r=>
   simp only[List.headD_cons]at e1;rw[←aH2];unfold bT9;simp only[e1];rw[List.drop_one,List.tail_cons]at e2;rw[e2];rfl
theorem bY4 (b:aF):LsB (decO b):=fun l hl w hw=>by
 have:=(aG9 (b:=b) l hl).2.2 w hw;omega
variable {r:List (List aF)}{b:aF}
theorem cQ3 (he:eL b=0)(h:rdP (decO b)=(none,r)):dpE b=2∧dpL b=(decO b).length-r.length∧dpO b=po0:=by
 have e1:dpE b=2:=by rw[dpE,if_neg (by simpa using he),h]
 refine⟨e1,by rw[dpL,if_neg (by simpa using he),h],by rw[dpO,e1,if_neg (by decide)]⟩
theorem cQ4 (he:eL b=0)(h:rdP (decO b)=(some p,r)):dpE b=(if eY p then 0 else 1)∧dpL b=0∧dpO b=if eY p then p else po0:=by
 have e1:dpE b=(if eY p then 0 else 1):=by rw[dpE,if_neg (by simpa using he),h]
 refine⟨e1,by rw[dpL,if_neg (by simpa using he),h],?_⟩;rw[dpO,e1,h];cases eY p<;>rfl
end Go.Pl
