/- Plain Lean: where the reference's reader stands after some lines (28.5), and what Decode answers. By an AI agent. -/
import Derived.Test.YtlgckianjabghaaGreatDoorHpUt
set_option maxRecDepth 10000
set_option maxHeartbeats 16000000
set_option linter.unusedSimpArgs false
set_option linter.unusedVariables false
set_option linter.defProp false
namespace Go.Proofs.YtlgckianjabghaaGreatDoor
open Go Go.Hl Go.Pl
abbrev rls (r:List Pr)(a b c:aH)(g:Int)(k:Nat):List HV:=(r.map fun x=>HV.c x.cv)++[.agg [.c (.str a),.c (.str b),.c (.str c),.c (.int .i64 g),.own 3 k]]
abbrev os3 (n:aH)(v:Int)(r:List Pr)(a b c:aH)(g:Int)(t:List Nd)(W:List Nat)(m:Nat)(d:Bool):List HO:=
 [.box 72 (rbx n v (.own 1 (r.length+1)) (cL 2 W.length 1 m) d),.hrow 48 5 (rls r a b c g t.length),.row 3 1 (W.map iC),.row 56 7 (t.map Nd.cv)]
variable {m:Nat}{W:List Nat}{t:List Nd}
theorem tZ {ob:Ob}{b0:CV}{n:aH}{v:Int}{r:List Pr}{a b c:aH}{g:Int}{d:Bool}{u:HV}{R:HV→List HO→Prop}(hr:u= .c b0)(h0:ob 0=some (.box 72 (rbx n v (.own 1 (r.length+1)) (cL 2 W.length 1 m) d)))(h1:ob 1=some (.hrow 48 5 (rls r a b c g t.length)))(h2:ob 2=some (.row 3 1 (W.map iC)))
  (h3:ob 3=some (.row 56 7 (t.map Nd.cv))) (hR:R (.c b0.denil) (os3 n v r a b c g t W m d)):lC 4 u ob (fun r ob'=> ∃os',ob'=lst os'∧(4≤os'.length∧os'.length≤4+4)∧R r os'):=by
 subst hr;refine dS [] [] (.c b0.denil) (os3 n v r a b c g t W m d) (by simp[HV.close,HV.norm,HV.toC,HV.ren]) (by simp[HV.men]) ⟨⟨by simp[HO.men,HV.men,HV.menL,rbx,bA],by simp,_,h0,?_⟩,⟨by simp[HO.men,HV.menL_append,HV.menL,HV.men,bV],by simp,_,h1,?_⟩,⟨by simp[HO.men],by simp,_,h2,rfl⟩,⟨by simp[HO.men],by simp,_,h3,rfl⟩,trivial⟩ rfl I3 (by simp) (by simp) hR
 · simp[rbx,HO.close,HV.close,HV.closeL,pM m W h2,CV.denil,fC,HV.norm,HV.toC,HV.toCL,HO.ren,HV.ren,HV.renL,aN,lI,iW,tau]
 simp[HO.close,HO.ren,sB,qR,pL,lY,fC,HV.close,HV.closeL,HV.ren,HV.renL,HV.norm,HV.toC,HV.toCL,CV.denil,tau]
theorem cN0 {w:List aH}{n:Nd}(h:dI w=some n):n.c=0:=by
 unfold dI eL at h
 repeat' split at h
 all_goals first|(cases h;rfl)|(cases h)|(obtain⟨x,_,rfl⟩:=C8.1 h;rfl)
theorem aO5 (h0:0<m)(h:m≤W.length):W.take m≠[]:=by
 intro e;have:=congrArg List.length e;rw[D9,G5 h]at this;simp only[E5]at this;omega
theorem aI2 (h0:0<m)(h:m≤W.length):(W.take m).getLast? =some (W[m-1]'(by omega)):=by
 rw[List.getLast?_eq_getElem?,D9,G5 h,O2,B6 (by omega)];simp
variable {x:Nat}
theorem cF1 {B:Nat}(hx:x<t.length)(h: ∀y∈t,0≤y.c∧y.c≤B): ∀y∈qV t x,0≤y.c∧y.c≤B+1:=by
 intro y hy;have hg:t.getD x nd0=t[x]:=by simp[C7,hx]
 rcases K4 hy with h1|h1
 · have:=h y h1;omega
 have:=h _ (C0 hx);rw[h1,hg];simp only;omega
theorem xJ (hx:x<t.length):(t.map Nd.cv).set x (Nd.cv ⟨t[x].k,t[x].n,t[x].c+1,t[x].q⟩)=(qV t x).map Nd.cv:=by
 have hg:t.getD x nd0=t[x]:=by simp[C7,hx]
 rw[qV,N4,hg]
def J3 (w:List aH)(n:aH)(v:Int)(r:List Pr)(a b c:aH)(g:Int)(t:List Nd)(W:List Nat)(m:Nat)(d:Bool)(B:Nat)(u:HV)(os':List HO):Prop:=
 u= .c (.bool (cW w false ⟨n,v,r++[⟨a,b,c,g,t⟩],W.take m,d⟩).isSome)∧match cW w false ⟨n,v,r++[⟨a,b,c,g,t⟩],W.take m,d⟩with
   |some y=> ∃t' W' m' d',y=⟨n,v,r++[⟨a,b,c,g,t'⟩],W'.take m',d'⟩∧os'=os3 n v r a b c g t' W' m' d'∧m'≤W'.length∧W'.length≤W.length+1∧t'.length≤t.length+1∧(∀i∈W'.take m',i<t'.length)∧ ∀x∈t',0≤x.c∧x.c≤B+1
   |none=>os'=os3 n v r a b c g t W m d
theorem aY4 (w:List aH)(hw:0<w.length)(n:aH)(v:Int)(r:List Pr)(a b c:aH)(g:Int)(t:List Nd)(W:List Nat)(m:Nat)(d:Bool)(B:Nat)(hm:m≤W.length)(hd:d=true∨0<m)(ho: ∀i∈W.take m,i<t.length)(hr:r.length<2^40)(ht:t.length<2^40)(hW:W.length<2^40)(hB:B<2^40)(hc: ∀x∈t,0≤x.c∧x.c≤B):
  HGe Tryz.prog 27 [.ptr 0 0,.c (lsC w),.c (.bool false)] (os3 n v r a b c g t W m d) (J3 w n v r a b c g t W m d B):=by
 refine cA (args:=[.ptr 0 0,.c (lsC w),.c (.bool false)]) Tryz.func27 rfl (by kernel_rfl) (eM rfl (by simp[rbx,dO,HO.men,HV.men,HV.menL,HV.menL_append,bA,bV]) (by simp[HV.menL,HV.men])) (C4 rfl) ?_;show Hw _ _ 4 _ _ _ (lst _) 4;rw[cZ3];unfold lsC;have hw0:nth (w.map CV.str) 0= .str (wd w 0):=cH hw;have hwr:IntKind.i64.wrap (((r.length+1:Nat):Int)-1)=(r.length:Int):=by rw[cS _ (by omega)];omega
 refine aC fun K hK=>aL (by kernel_rfl) ?_;simp (maxSteps:=4000000) only[↓sP,sA,tyS,simprocAttr];repeat refine AI ?_
 refine hK _ _ _ ?_;clear hK K;refine aC fun K hK=>?_;refine aC fun K hK=>aL (by kernel_rfl) ?_;simp (maxSteps:=4000000) only[↓sP,sA,tyS,simprocAttr];repeat refine AI ?_
 refine hK _ _ _ ?_;clear hK K;refine aF (b:=false) rfl (fun hb=>?_) (fun hb=>?_)
 · cases hb
 refine aJ ?_;simp (maxSteps:=4000000) only[↓sP,sA,tyS,simprocAttr];repeat refine AI ?_
 refine hK _ _ _ ?_;clear hK K;refine aC fun K hK=>?_;refine aC fun K hK=>?_;have key: ∀fr ob nx,Fits 4 fr ob (fin [(0,.ptr 0 0),(1,.c (.slc (w.map .str))),(54,.c (.bool false))]) (fob [(0,.box 72 (rbx n v (.own 1 (r.length+1)) (cL 2 W.length 1 m) d)),(1,.hrow 48 5 (rls r a b c g t.length)),(2,.row 3 1 (W.map iC)),(3,.row 56 7 (t.map Nd.cv))]) 100→K fr ob nx:=by
  rintro fr ob nx hf;refine hK _ _ _ (bB hf ?_);clear hf hK K;refine aF (b:=false) rfl (fun hb=>?_) (fun hb=>?_)
  · cases hb
  refine aJ ?_;simp (maxSteps:=4000000) only[↓sP,sA,tyS,simprocAttr];repeat refine AI ?_
  refine hK _ _ _ ?_;clear hK K;refine aC fun K hK=>cP mixed [(0,[],[]),(1,[],[]),(2,[],[]),(3,[],[]),(4,[],[]),(5,[],[]),(6,[],[]),(7,[],[]),(8,[],[]),(9,[],[]),(10,[],[]),(11,[],[]),(12,[],[]),(13,[],[])] [0,1,3,7,15,0,32,96,224,480,992,2016,4095,8191] (by kernel_rfl) (by kernel_rfl) (by kernel_rfl) (by kernel_rfl) rfl (by kernel_rfl) ?_;iterate 10
   (refine bR (g:=none) rfl rfl fun K' hK'=>?_;simp only[sH,↓sP,sA,tyS,simprocAttr,rbx,aY,aS,aN,A3,A2,B0,E5,F3,hwr,A0,A4,H7,A5];(repeat refine AI ?_);refine hK' _ _ ?_;clear hK' K')
  refine bF (g:=none) rfl rfl fun K' hK'=>?_;simp (maxSteps:=4000000) only[sN,↓hopH.eq_def,sH,↓sP,sA,tyS,simprocAttr,rbx,aY,aS,aN,A3,A2,B0,E5,F3,hwr,A0,A4,H7,A5];repeat refine AI ?_
  refine hK' _ _ ?_;clear hK' K';refine bR (g:=none) rfl rfl fun K' hK'=>?_;simp (maxSteps:=4000000) only[sH,↓sP,sA,tyS,simprocAttr,rbx,aY,aS,aN,A3,A2,B0,E5,F3,hwr,A0,A4,H7,A5];repeat refine AI ?_
  refine hK' _ _ ?_;clear hK' K';refine bF (g:=none) rfl rfl fun K' hK'=>?_;simp (maxSteps:=4000000) only[sN,↓hopH.eq_def,sH,↓sP,sA,tyS,simprocAttr,rbx,aY,aS,aN,A3,A2,B0,E5,F3,hwr,A0,A4,H7,A5];repeat refine AI ?_
  refine hK' _ _ ?_;clear hK' K';refine bR (g:=none) rfl rfl fun K' hK'=>?_;simp (maxSteps:=4000000) only[sH,↓sP,sA,tyS,simprocAttr,rbx,aY,aS,aN,A3,A2,B0,E5,F3,hwr,A0,A4,H7,A5];repeat refine AI ?_
  refine hK' _ _ ?_;clear hK' K';simp only[sE,↓reduceIte,simprocAttr];repeat refine AI ?_
  refine hK _ _ _ ?_;clear hK K;refine aC fun K hK=>?_;refine aC fun K hK=>?_;have key: ∀(b0:Bool) fr ob nx,b0=(eY w&&decide (0<m))→Fits 4 fr ob (fin [(0,.ptr 0 0),(1,.c (.slc (w.map .str))),(7,.eptr 1 (r.length+1) r.length 5 0),(128,.c (.bool b0))]) (fob [(0,.box 72 (rbx n v (.own 1 (r.length+1)) (cL 2 W.length 1 m) d)),(1,.hrow 48 5 (rls r a b c g t.length)),(2,.row 3 1 (W.map iC)),(3,.row 56 7 (t.map Nd.cv))]) 200→K fr ob nx:=by
   rintro b0 fr ob nx rfl hf;refine hK _ _ _ (bB hf ?_);clear hf hK K;refine aF (b:=(eY w&&decide (0<m))) rfl (fun hb=>?_) (fun hb=>?_)
   ·
    obtain⟨he,hm0⟩:eY w=true∧0<m:=by simpa using hb
    clear hb;have hw2:IntKind.i64.wrap ((m:Int)-1)=((m-1:Nat):Int):=by rw[cS _ (by omega)];omega
    have hs:cW w false ⟨n,v,r++[⟨a,b,c,g,t⟩],W.take m,d⟩=some ⟨n,v,r++[⟨a,b,c,g,t⟩],W.take (m-1),d⟩:=by
     have hne:=aO5 hm0 hm;unfold cW;rw[A7 (by decide),if_neg (fun h=>hne h.2),if_pos ⟨he,hne⟩];simp only[List.dropLast_eq_take,D9,R9,G5 hm,G5 (Z9 m 1)]
    by_cases hmW:m=W.length
    ·
     refine aC fun K hK=>cP mixed [(0,[],[]),(1,[],[]),(2,[],[]),(3,[],[]),(4,[],[]),(5,[],[]),(6,[],[]),(7,[],[]),(8,[],[]),(9,[],[]),(10,[],[]),(11,[],[]),(12,[],[]),(13,[],[]),(14,[],[])] [0,0,2,6,14,0,32,96,224,480,992,2046,4095,8191,16383] (by kernel_rfl) (by kernel_rfl) (by kernel_rfl) (by kernel_rfl) rfl (by kernel_rfl) ?_;iterate 15
      (refine bR (g:=none) rfl rfl fun K' hK'=>?_;simp only[sH,↓sP,sA,tyS,simprocAttr,rbx,bD,aY,aS,aN,←hmW,A2,hw2,A0,H2,(show m-1≤m by omega)];(repeat refine AI ?_);refine hK' _ _ ?_;clear hK' K')
     simp only[sE,↓reduceIte,simprocAttr];repeat refine AI ?_
     refine hK _ _ _ ?_;clear hK K;refine aC fun K hK=>aL (by kernel_rfl) ?_;simp (maxSteps:=4000000) only[↓sP,sA,tyS,simprocAttr];repeat refine AI ?_
     refine hK _ _ _ ?_;clear hK K;refine aE ?_;simp (maxSteps:=4000000) only[gI,Tryz.results27,fV,gH,fJ,↓sP,sA,tyS,simprocAttr];refine tZ (b0:= .bool true) (n:=n) (v:=v) (r:=r) (a:=a) (b:=b) (c:=c) (g:=g) (t:=t) (W:=W) (m:=m-1) (d:=d) rfl (by rw[bE (show m-1≠W.length by omega)];simp[fob_at,upd_at,rbx,←hmW,HV.norm,HV.toC,HV.toCL]) rfl rfl rfl ⟨by rw[hs]<;>rfl,by rw[hs];exact⟨t,W,m-1,d,rfl,rfl,by omega,by omega,by omega,fun i hi=>ho i (H5 (by rw[R9,G5 (Z9 _ _)];exact hi)),fun x hx=>⟨(hc x hx).1,by have:=(hc x hx).2;omega⟩⟩⟩
    have hWp:0<W.length:=by omega
    have hmm:m-1≤m:=by omega
    have hmw:m-1≤W.length:=by omega
    refine aC fun K hK=>cP mixed [(0,[],[]),(1,[],[]),(2,[],[]),(3,[],[]),(4,[],[]),(5,[],[]),(6,[],[]),(7,[],[]),(8,[],[]),(9,[],[]),(10,[],[]),(11,[],[]),(12,[],[]),(13,[],[]),(14,[],[])] [0,0,2,6,14,0,32,96,224,480,992,2046,4095,8191,16383] (by kernel_rfl) (by kernel_rfl) (by kernel_rfl) (by kernel_rfl) rfl (by kernel_rfl) ?_;iterate 11
     (refine bR (g:=none) rfl rfl fun K' hK'=>?_;simp only[sH,↓sP,sA,tyS,simprocAttr,rbx,aY,aS,aN,bE hmW,A2,hWp,hm,F9,D9,B8,G8,G5 hm,hw2,A0,H2,hmm,hmw];(repeat refine AI ?_);refine hK' _ _ ?_;clear hK' K')
    refine bF (g:=none) rfl rfl fun K' hK'=>?_;simp (maxSteps:=4000000) only[sN,↓hopH.eq_def,sH,↓sP,sA,tyS,simprocAttr,rbx,aY,aS,aN,bE hmW,A2,hWp,hm,F9,D9,B8,G8,G5 hm,hw2,A0,H2,hmm,hmw];repeat refine AI ?_
    refine hK' _ _ ?_;clear hK' K';iterate 3
     (refine bR (g:=none) rfl rfl fun K' hK'=>?_;simp only[sH,↓sP,sA,tyS,simprocAttr,rbx,aY,aS,aN,bE hmW,A2,hWp,hm,F9,D9,B8,G8,G5 hm,hw2,A0,H2,hmm,hmw];(repeat refine AI ?_);refine hK' _ _ ?_;clear hK' K')
    simp only[sE,↓reduceIte,simprocAttr];repeat refine AI ?_
    refine hK _ _ _ ?_;clear hK K;refine aC fun K hK=>aL (by kernel_rfl) ?_;simp (maxSteps:=4000000) only[↓sP,sA,tyS,simprocAttr];repeat refine AI ?_
    refine hK _ _ _ ?_;clear hK K;refine aE ?_;simp (maxSteps:=4000000) only[gI,Tryz.results27,fV,gH,fJ,↓sP,sA,tyS,simprocAttr];refine tZ (b0:= .bool true) (n:=n) (v:=v) (r:=r) (a:=a) (b:=b) (c:=c) (g:=g) (t:=t) (W:=W) (m:=m-1) (d:=d) rfl (by rw[bE (show m-1≠W.length by omega)];simp[fob_at,upd_at,rbx,HV.norm,HV.toC,HV.toCL]) rfl rfl rfl ⟨by rw[hs]<;>rfl,by rw[hs];exact⟨t,W,m-1,d,rfl,rfl,by omega,by omega,by omega,fun i hi=>ho i (by rw[←Nat.min_eq_left (Z9 m 1),←List.take_take]at hi;exact H5 hi),fun x hx=>⟨(hc x hx).1,by have:=(hc x hx).2;omega⟩⟩⟩
   have hnend: ¬(eY w=true∧0<m):=by simpa using hb
   clear hb;have hs:cW w false ⟨n,v,r++[⟨a,b,c,g,t⟩],W.take m,d⟩=(dI w).map fun nd=>⟨n,v,r++[⟨a,b,c,g,jX t (W.take m)++[nd]⟩],if nd.k=1 then W.take m else W.take m++[t.length],false⟩:=by
    unfold cW;rw[A7 (by decide),if_neg (fun h=>hd.elim (fun e=>by rw[e]at h;cases h.1) (fun h0=>aO5 h0 hm h.2)),A7 (fun h=>hnend ⟨h.1,BE fun e=>h.2 (by rw[e];rfl)⟩)];simp only[vE,rT]
   refine aJ ?_;simp (maxSteps:=4000000) only[↓sP,sA,tyS,simprocAttr];repeat refine AI ?_
   refine hK _ _ _ ?_;clear hK K;refine aC fun K hK=>aL (by kernel_rfl) ?_;simp only[sR,simprocAttr];refine aW (g:=none) rfl rfl fun K' hK'=>?_;simp (maxSteps:=4000000) only[sH,↓sP,sA,tyS,simprocAttr];repeat refine AI ?_
   refine hK' _ _ ?_;clear hK' K';refine aW (g:=none) rfl rfl fun K' hK'=>?_;simp (maxSteps:=4000000) only[sH,↓sP,sA,tyS,simprocAttr];refine rP (args:=[_]) (bS6 w hw) ⟨rfl,rfl,rfl,rfl⟩ ?_;rintro u v' ⟨nd,b0,rfl,rfl,hnd⟩;repeat refine AI ?_
   refine hK' _ _ ?_;clear hK' K';iterate 6
    (refine aW (g:=none) rfl rfl fun K' hK'=>?_;simp only[sH,↓sP,sA,tyS,simprocAttr];(repeat refine AI ?_);refine hK' _ _ ?_;clear hK' K')
   simp only[sE,↓reduceIte,simprocAttr];repeat refine AI ?_
   refine hK _ _ _ ?_;clear hK K;refine aC fun K hK=>?_;refine aC fun K hK=>aL (by kernel_rfl) ?_;simp (maxSteps:=4000000) only[↓sP,sA,tyS,simprocAttr];repeat refine AI ?_
   refine hK _ _ _ ?_;clear hK K;refine aF (b:=!b0) rfl (fun hb=>?_) (fun hb=>?_)
   ·
    have hn:dI w=none:=by
     cases h:dI w with
     |none=>rfl
     |some x=>rw[hnd.1,h]at hb;simp at hb
    refine aC fun K hK=>aL (by kernel_rfl) ?_;simp (maxSteps:=4000000) only[↓sP,sA,tyS,simprocAttr];repeat refine AI ?_
    refine hK _ _ _ ?_;clear hK K;refine aE ?_;simp (maxSteps:=4000000) only[gI,Tryz.results27,fV,gH,fJ,↓sP,sA,tyS,simprocAttr];exact tZ (b0:= .bool false) rfl rfl rfl rfl rfl ⟨by rw[hs,hn]<;>rfl,by rw[hs,hn];rfl⟩
   have hsn:dI w=some nd:=by
    cases h:dI w with
    |none=>rw[hnd.1,h]at hb;simp at hb
    |some x=>rw[hnd.2 x h]
   have hnc:=cN0 hsn;rw[hsn,H8]at hs;clear hb hnd;refine aJ ?_;simp (maxSteps:=4000000) only[↓sP,sA,tyS,simprocAttr];repeat refine AI ?_
   refine hK _ _ _ ?_;clear hK K;refine aC fun K hK=>?_;have key: ∀(t':List Nd) fr ob nx,t'=jX t (W.take m)→t'.length=t.length→(∀x∈t',0≤x.c∧x.c≤B+1)→Fits 4 fr ob (fin [(0,.ptr 0 0),(7,.eptr 1 (r.length+1) r.length 5 0),(8,.ptr 220 0)]) (fob [(0,.box 72 (rbx n v (.own 1 (r.length+1)) (cL 2 W.length 1 m) d)),(1,.hrow 48 5 (rls r a b c g t.length)),(2,.row 3 1 (W.map iC)),(3,.row 56 7 (t'.map Nd.cv)),(220,.box 56 (.c nd.cv))]) 400→K fr ob nx:=by
    rintro t' fr ob nx ht1 ht2 hc2 hf;refine hK _ _ _ (bB hf ?_);clear hf hK K;refine aC fun K hK=>aL (by kernel_rfl) ?_;simp only[sR,simprocAttr];iterate 4
     (refine aW (g:=none) rfl rfl fun K' hK'=>?_;simp only[sH,↓sP,sA,tyS,simprocAttr,rbx,aY,aS,aN];(repeat refine AI ?_);refine hK' _ _ ?_;clear hK' K')
    simp only[sE,↓reduceIte,simprocAttr];repeat refine AI ?_
    refine hK _ _ _ ?_;clear hK K;refine aC fun K hK=>cP mixed [(0,[],[]),(1,[],[]),(2,[],[]),(3,[],[]),(4,[],[]),(5,[],[]),(6,[],[]),(7,[],[0]),(8,[],[]),(9,[],[]),(10,[],[])] [0,0,2,6,14,0,32,126,255,511,1023] (by kernel_rfl) (by kernel_rfl) (by kernel_rfl) (by kernel_rfl) rfl (by kernel_rfl) ?_;iterate 2
     (refine bR (g:=none) rfl rfl fun K' hK'=>?_;simp only[sH,↓sP,sA,tyS,simprocAttr,cO,nW,A2,A3,B0,E5,F3,ht2,H7];(repeat refine AI ?_);refine hK' _ _ ?_;clear hK' K')
    refine bF (g:=none) rfl rfl fun K' hK'=>?_;simp (maxSteps:=4000000) only[sN,↓hopH.eq_def,sH,↓sP,sA,tyS,simprocAttr,cO,nW,A2,A3,B0,E5,F3,ht2,H7];repeat refine AI ?_
    refine hK' _ _ ?_;clear hK' K';refine bF (g:=none) rfl rfl fun K' hK'=>?_;simp (maxSteps:=4000000) only[sN,↓hopH.eq_def,sH,↓sP,sA,tyS,simprocAttr,cO,nW,A2,A3,B0,E5,F3,ht2,H7];repeat refine AI ?_
    refine hK' _ _ ?_;clear hK' K';refine bF (g:=none) rfl rfl fun K' hK'=>?_;simp (maxSteps:=4000000) only[sN,↓hopH.eq_def,sH,↓sP,sA,tyS,simprocAttr,cO,nW,A2,A3,B0,E5,F3,ht2,H7];repeat refine AI ?_
    refine hK' _ _ ?_;clear hK' K';iterate 3
     (refine bR (g:=none) rfl rfl fun K' hK'=>?_;simp only[sH,↓sP,sA,tyS,simprocAttr,cO,nW,A2,A3,B0,E5,F3,ht2,H7];(repeat refine AI ?_);refine hK' _ _ ?_;clear hK' K')
    refine bF (g:=none) rfl rfl fun K' hK'=>?_;simp (maxSteps:=4000000) only[sN,↓hopH.eq_def,sH,↓sP,sA,tyS,simprocAttr,cO,nW,A2,A3,B0,E5,F3,ht2,H7];repeat refine AI ?_
    refine hK' _ _ ?_;clear hK' K';refine bF (g:=none) rfl rfl fun K' hK'=>?_;simp (maxSteps:=4000000) only[sN,↓hopH.eq_def,sH,↓sP,sA,tyS,simprocAttr,cO,nW,A2,A3,B0,E5,F3,ht2,H7];repeat refine AI ?_
    refine hK' _ _ ?_;clear hK' K';refine bF (g:=none) rfl rfl fun K' hK'=>?_;simp (maxSteps:=4000000) only[sN,↓hopH.eq_def,sH,↓sP,sA,tyS,simprocAttr,cO,nW,A2,A3,B0,E5,F3,ht2,H7];repeat refine AI ?_
    refine hK' _ _ ?_;clear hK' K';simp only[sE,↓reduceIte,simprocAttr];repeat refine AI ?_
    refine hK _ _ _ ?_;clear hK K;refine aC fun K hK=>?_;have key3: ∀(W':List Nat) (m':Nat) fr ob nx,W'.take m'=(if nd.k=1 then W.take m else W.take m++[t.length])→m'≤W'.length→W'.length≤W.length+1→Fits 4 fr ob (fin [(0,.ptr 0 0)]) (fob [(0,.box 72 (rbx n v (.own 1 (r.length+1)) (cL 2 W'.length 1 m') false)),(1,.hrow 48 5 (rls r a b c g (t.length+1))),(2,.row 3 1 (W'.map iC)),(3,.row 56 7 ((t'++[nd]).map Nd.cv))]) 900→K fr ob nx:=by
     rintro W' m' fr ob nx hW1 hW2 hW3 hf;refine hK _ _ _ (bB hf ?_);clear hf hK K;refine aC fun K hK=>aL (by kernel_rfl) ?_;simp (maxSteps:=4000000) only[↓sP,sA,tyS,simprocAttr];repeat refine AI ?_
     refine hK _ _ _ ?_;clear hK K;refine aE ?_;simp (maxSteps:=4000000) only[gI,Tryz.results27,fV,gH,fJ,↓sP,sA,tyS,simprocAttr];have hl:(t'++[nd]).length=t.length+1:=by simp[ht2]
     refine tZ (b0:= .bool true) (n:=n) (v:=v) (r:=r) (a:=a) (b:=b) (c:=c) (g:=g) (t:=t'++[nd]) (W:=W') (m:=m') (d:=false) rfl rfl (by rw[hl];rfl) rfl rfl ⟨by rw[hs]<;>rfl,by
      rw[hs];refine⟨t'++[nd],W',m',false,by rw[ht1,hW1],rfl,hW2,hW3,by omega,fun i hi=>?_,fun x hx=>?_⟩
      ·
       rw[hW1]at hi;rw[hl];split at hi
       · have:=ho i hi;omega
       rcases F4.1 hi with h|h
       · have:=ho i h;omega
       have:=G0.1 h;omega
      rcases F4.1 hx with h|h
      · exact hc2 x h
      rw[G0.1 h,hnc];omega⟩
    refine aC fun K hK=>aL (by kernel_rfl) ?_;simp (maxSteps:=4000000) only[↓sP,sA,tyS,simprocAttr];repeat refine AI ?_
    refine hK _ _ _ ?_;clear hK K;refine aF (b:=(nd.k !=1)) rfl (fun hb=>?_) (fun hb=>?_)
    ·
     have hk1:nd.k≠1:=by simpa using hb
     clear hb;have hw3:IntKind.i64.wrap (((t.length+1:Nat):Int)-1)=(t.length:Int):=by rw[cS _ (by omega)];omega
     by_cases hmW:m=W.length
     ·
      refine cP mixed [(0,[],[]),(1,[],[]),(2,[],[]),(3,[],[]),(4,[],[]),(5,[],[]),(6,[],[]),(7,[],[]),(8,[],[]),(9,[],[]),(10,[],[]),(11,[],[]),(12,[],[0]),(13,[],[]),(14,[],[]),(15,[],[])] [0,0,2,6,14,0,32,96,224,480,992,2016,4094,8191,16383,32767] (by kernel_rfl) (by kernel_rfl) (by kernel_rfl) (by kernel_rfl) rfl (by kernel_rfl) ?_;iterate 6
       (refine bR (g:=none) rfl rfl fun K' hK'=>?_;simp only[sH,↓sP,sA,tyS,simprocAttr,rbx,bD,aY,aS,aN,←hmW,A2,A3,B0,E5,F3,cO,ht2,hw3];(repeat refine AI ?_);refine hK' _ _ ?_;clear hK' K')
      refine bF (g:=none) rfl rfl fun K' hK'=>?_;simp (maxSteps:=4000000) only[sN,↓hopH.eq_def,sH,↓sP,sA,tyS,simprocAttr,rbx,bD,aY,aS,aN,←hmW,A2,A3,B0,E5,F3,cO,ht2,hw3];repeat refine AI ?_
      refine hK' _ _ ?_;clear hK' K';refine bF (g:=none) rfl rfl fun K' hK'=>?_;simp (maxSteps:=4000000) only[sN,↓hopH.eq_def,sH,↓sP,sA,tyS,simprocAttr,rbx,bD,aY,aS,aN,←hmW,A2,A3,B0,E5,F3,cO,ht2,hw3];repeat refine AI ?_
      refine hK' _ _ ?_;clear hK' K';refine bF (g:=none) rfl rfl fun K' hK'=>?_;simp (maxSteps:=4000000) only[sN,↓hopH.eq_def,sH,↓sP,sA,tyS,simprocAttr,rbx,bD,aY,aS,aN,←hmW,A2,A3,B0,E5,F3,cO,ht2,hw3];repeat refine AI ?_
      refine hK' _ _ ?_;clear hK' K';iterate 7
       (refine bR (g:=none) rfl rfl fun K' hK'=>?_;simp only[sH,↓sP,sA,tyS,simprocAttr,rbx,bD,aY,aS,aN,←hmW,A2,A3,B0,E5,F3,cO,ht2,hw3];(repeat refine AI ?_);refine hK' _ _ ?_;clear hK' K')
      simp only[sE,↓reduceIte,simprocAttr];exact key3 (W++[t.length]) (m+1) _ _ _ (by rw[A7 hk1,hmW,E6 (by simp),E6 (F2 _)]) (by simp;omega) (by simp) (aP (by omega) (by simp[gJ,fin_at,finA_at,upd_at,HV.men,HV.menL,HV.norm,HV.toC,HV.toCL,rbx,bA,bV,HV.menL_append,aN,←hmW,bD,iC,ht2]) (by simp[dC,fob_at,upd_at,none0_at,mF,HO.men,HV.men,HV.menL,HV.norm,HV.toC,HV.toCL,rbx,bA,bV,HV.menL_append,aN,←hmW,bD,iC,ht2]))
     have hmW2:m+1≤W.length:=by omega
     refine cP mixed [(0,[],[]),(1,[],[]),(2,[],[]),(3,[],[]),(4,[],[]),(5,[],[]),(6,[],[]),(7,[],[]),(8,[],[]),(9,[],[]),(10,[],[]),(11,[],[]),(12,[],[0]),(13,[],[]),(14,[],[]),(15,[],[])] [0,0,2,6,14,0,32,96,224,480,992,2016,4094,8191,16383,32767] (by kernel_rfl) (by kernel_rfl) (by kernel_rfl) (by kernel_rfl) rfl (by kernel_rfl) ?_;iterate 6
      (refine bR (g:=none) rfl rfl fun K' hK'=>?_;simp only[sH,↓sP,sA,tyS,simprocAttr,rbx,bE hmW,aY,aS,aN,A2,A3,B0,E5,F3,cO,ht2,hw3,(show 0<W.length by omega),hmW2];(repeat refine AI ?_);refine hK' _ _ ?_;clear hK' K')
     refine bF (g:=none) rfl rfl fun K' hK'=>?_;simp (maxSteps:=4000000) only[sN,↓hopH.eq_def,sH,↓sP,sA,tyS,simprocAttr,rbx,bE hmW,aY,aS,aN,A2,A3,B0,E5,F3,cO,ht2,hw3,(show 0<W.length by omega),hmW2];repeat refine AI ?_
     refine hK' _ _ ?_;clear hK' K';refine bF (g:=none) rfl rfl fun K' hK'=>?_;simp (maxSteps:=4000000) only[sN,↓hopH.eq_def,sH,↓sP,sA,tyS,simprocAttr,rbx,bE hmW,aY,aS,aN,A2,A3,B0,E5,F3,cO,ht2,hw3,(show 0<W.length by omega),hmW2];repeat refine AI ?_
     refine hK' _ _ ?_;clear hK' K';refine bF (g:=none) rfl rfl fun K' hK'=>?_;simp (maxSteps:=4000000) only[sN,↓hopH.eq_def,sH,↓sP,sA,tyS,simprocAttr,rbx,bE hmW,aY,aS,aN,A2,A3,B0,E5,F3,cO,ht2,hw3,(show 0<W.length by omega),hmW2];repeat refine AI ?_
     refine hK' _ _ ?_;clear hK' K';iterate 3
      (refine bR (g:=none) rfl rfl fun K' hK'=>?_;simp only[sH,↓sP,sA,tyS,simprocAttr,rbx,bE hmW,aY,aS,aN,A2,A3,B0,E5,F3,cO,ht2,hw3,(show 0<W.length by omega),hmW2];(repeat refine AI ?_);refine hK' _ _ ?_;clear hK' K')
     refine bF (g:=none) rfl rfl fun K' hK'=>?_;simp (maxSteps:=4000000) only[sN,↓hopH.eq_def,sH,↓sP,sA,tyS,simprocAttr,rbx,bE hmW,aY,aS,aN,A2,A3,B0,E5,F3,cO,ht2,hw3,(show 0<W.length by omega),hmW2];repeat refine AI ?_
     refine hK' _ _ ?_;clear hK' K';iterate 3
      (refine bR (g:=none) rfl rfl fun K' hK'=>?_;simp only[sH,↓sP,sA,tyS,simprocAttr,rbx,bE hmW,aY,aS,aN,A2,A3,B0,E5,F3,cO,ht2,hw3,(show 0<W.length by omega),hmW2];(repeat refine AI ?_);refine hK' _ _ ?_;clear hK' K')
     simp only[sE,↓reduceIte,simprocAttr];have hl:(W.take m++[t.length]++W.drop (m+1)).length=W.length:=by simp;omega
     exact key3 (W.take m++[t.length]++W.drop (m+1)) (m+1) _ _ _ (by rw[A7 hk1,List.take_append_of_le_length (by simp;omega),E6 (by simp;omega)]) (by rw[hl];exact hmW2) (by rw[hl];omega) (by
      rw[hl];exact aP (by omega) (by simp[gJ,fin_at,finA_at,upd_at,HV.men,HV.menL,HV.norm,HV.toC,HV.toCL,rbx,bA,bV,HV.menL_append,aN,iC,ht2,K3,M1]) (by simp[dC,fob_at,upd_at,none0_at,mF,HO.men,HV.men,HV.menL,HV.norm,HV.toC,HV.toCL,rbx,bA,bV,HV.menL_append,aN,iC,ht2,K3,M1]))
    refine aJ ?_;simp (maxSteps:=4000000) only[↓sP,sA,tyS,simprocAttr];have hk1:nd.k=1:=by simpa using hb
    exact key3 W m _ _ _ (by rw[B6 hk1]) hm (by omega) (aP (by omega) (by simp[gJ,fin_at,finA_at,upd_at,HV.men,HV.menL,HV.norm,HV.toC,HV.toCL,rbx,bA,bV,HV.menL_append,aN,ht2]) (by simp[dC,fob_at,upd_at,none0_at,mF,HO.men,HV.men,HV.menL,HV.norm,HV.toC,HV.toCL,rbx,bA,bV,HV.menL_append,aN,ht2]))
   refine aC fun K hK=>?_;have key2: ∀(b0:Bool) fr ob nx,b0=decide (0<m)→Fits 4 fr ob (fin [(0,.ptr 0 0),(7,.eptr 1 (r.length+1) r.length 5 0),(8,.ptr 220 0),(155,.c (.bool b0))]) (fob [(0,.box 72 (rbx n v (.own 1 (r.length+1)) (cL 2 W.length 1 m) d)),(1,.hrow 48 5 (rls r a b c g t.length)),(2,.row 3 1 (W.map iC)),(3,.row 56 7 (t.map Nd.cv)),(220,.box 56 (.c nd.cv))]) 300→K fr ob nx:=by
    rintro b0 fr ob nx rfl hf;refine hK _ _ _ (bB hf ?_);clear hf hK K;refine aF (b:=decide (0<m)) rfl (fun hb=>?_) (fun hb=>?_)
    ·
     have hm0:0<m:=by simpa using hb
     clear hb;obtain⟨x,hx⟩: ∃x,x=W[m-1]'(by omega):=⟨_,rfl⟩;have hxt:x<t.length:=ho x (by rw[hx,List.mem_take_iff_getElem];exact⟨m-1,by omega,rfl⟩);have hm1:m-1<W.length:=by omega
     have hne:(t=[])=False:=by rw[eq_iff_iff,iff_false];rintro rfl;exact absurd hxt (Q7 _)
     have hxW:nth (W.map iC) (m-1)=iC x:=by rw[aV hm1,hx]
     have hw2:IntKind.i64.wrap ((m:Int)-1)=((m-1:Nat):Int):=by rw[cS _ (by omega)];omega
     have hwc:IntKind.i64.wrap (t[x].c+1)=t[x].c+1:=by
      have:=hc _ (C0 hxt);exact cS _ (by omega)
     by_cases hmW:m=W.length
     ·
      have hmm:m-1<m:=by omega
      refine cP mixed [(0,[],[]),(1,[],[]),(2,[],[]),(3,[],[]),(4,[],[]),(5,[],[]),(6,[],[]),(7,[],[]),(8,[],[]),(9,[],[]),(10,[],[]),(11,[],[]),(12,[],[]),(13,[],[]),(14,[],[]),(15,[],[]),(16,[],[]),(17,[],[]),(18,[],[]),(19,[],[]),(20,[],[]),(21,[],[]),(22,[],[])] [0,1,3,7,0,16,48,112,0,256,768,1792,3840,7936,16368,32752,65535,131071,262143,524287,1048575,2097151,4194303] (by kernel_rfl) (by kernel_rfl) (by kernel_rfl) (by kernel_rfl) rfl (by kernel_rfl) ?_;refine bR (g:=none) rfl rfl fun K' hK'=>?_;simp (maxSteps:=4000000) only[sH,↓sP,sA,tyS,simprocAttr,rbx,bD,←hmW,A2,cO,hw2,hxW,iC,A0,A4,A5,hmm,hxt,aV hxt,hwc,L6,hne];repeat refine AI ?_
      refine hK' _ _ ?_;clear hK' K';refine bF (g:=none) rfl rfl fun K' hK'=>?_;simp (maxSteps:=4000000) only[sN,↓hopH.eq_def,sH,↓sP,sA,tyS,simprocAttr,rbx,bD,←hmW,A2,cO,hw2,hxW,iC,A0,A4,A5,hmm,hxt,aV hxt,hwc,L6,hne];repeat refine AI ?_
      refine hK' _ _ ?_;clear hK' K';refine bF (g:=none) rfl rfl fun K' hK'=>?_;simp (maxSteps:=4000000) only[sN,↓hopH.eq_def,sH,↓sP,sA,tyS,simprocAttr,rbx,bD,←hmW,A2,cO,hw2,hxW,iC,A0,A4,A5,hmm,hxt,aV hxt,hwc,L6,hne];repeat refine AI ?_
      refine hK' _ _ ?_;clear hK' K';refine bF (g:=none) rfl rfl fun K' hK'=>?_;simp (maxSteps:=4000000) only[sN,↓hopH.eq_def,sH,↓sP,sA,tyS,simprocAttr,rbx,bD,←hmW,A2,cO,hw2,hxW,iC,A0,A4,A5,hmm,hxt,aV hxt,hwc,L6,hne];repeat refine AI ?_
      refine hK' _ _ ?_;clear hK' K';iterate 19
       (refine bR (g:=none) rfl rfl fun K' hK'=>?_;simp only[sH,↓sP,sA,tyS,simprocAttr,rbx,bD,←hmW,A2,cO,hw2,hxW,iC,A0,A4,A5,hmm,hxt,aV hxt,hwc,L6,hne];(repeat refine AI ?_);refine hK' _ _ ?_;clear hK' K')
      simp only[sE,↓reduceIte,simprocAttr];exact key (qV t x) _ _ _ (by rw[jX,aI2 hm0 hm,hx]) (by simp[qV]) (cF1 hxt hc) (aP (by omega) (by simp[gJ,fin_at,finA_at,upd_at,HV.men,HV.menL,HV.norm,HV.toC,HV.toCL,rbx,bA,bV,HV.menL_append,aN,xJ hxt,←hmW,bD]) (by simp[dC,fob_at,upd_at,none0_at,mF,HO.men,HV.men,HV.menL,HV.norm,HV.toC,HV.toCL,rbx,bA,bV,HV.menL_append,aN,xJ hxt,←hmW,bD]))
     have hWp:0<W.length:=by omega
     have hmm:m-1<m:=by omega
     refine cP mixed [(0,[],[]),(1,[],[]),(2,[],[]),(3,[],[]),(4,[],[]),(5,[],[]),(6,[],[]),(7,[],[]),(8,[],[]),(9,[],[]),(10,[],[]),(11,[],[]),(12,[],[]),(13,[],[]),(14,[],[]),(15,[],[]),(16,[],[]),(17,[],[]),(18,[],[]),(19,[],[]),(20,[],[]),(21,[],[]),(22,[],[])] [0,1,3,7,0,16,48,112,0,256,768,1792,3840,7936,16368,32752,65535,131071,262143,524287,1048575,2097151,4194303] (by kernel_rfl) (by kernel_rfl) (by kernel_rfl) (by kernel_rfl) rfl (by kernel_rfl) ?_;refine bR (g:=none) rfl rfl fun K' hK'=>?_;simp (maxSteps:=4000000) only[sH,↓sP,sA,tyS,simprocAttr,rbx,bE hmW,A2,cO,hw2,hxW,iC,A0,A4,A5,hmm,hm1,hm,hWp,F9,D9,B8,G8,G5 hm,hxt,aV hxt,hwc,L6,hne];repeat refine AI ?_
     refine hK' _ _ ?_;clear hK' K';refine bF (g:=none) rfl rfl fun K' hK'=>?_;simp (maxSteps:=4000000) only[sN,↓hopH.eq_def,sH,↓sP,sA,tyS,simprocAttr,rbx,bE hmW,A2,cO,hw2,hxW,iC,A0,A4,A5,hmm,hm1,hm,hWp,F9,D9,B8,G8,G5 hm,hxt,aV hxt,hwc,L6,hne];repeat refine AI ?_
     refine hK' _ _ ?_;clear hK' K';refine bF (g:=none) rfl rfl fun K' hK'=>?_;simp (maxSteps:=4000000) only[sN,↓hopH.eq_def,sH,↓sP,sA,tyS,simprocAttr,rbx,bE hmW,A2,cO,hw2,hxW,iC,A0,A4,A5,hmm,hm1,hm,hWp,F9,D9,B8,G8,G5 hm,hxt,aV hxt,hwc,L6,hne];repeat refine AI ?_
     refine hK' _ _ ?_;clear hK' K';refine bF (g:=none) rfl rfl fun K' hK'=>?_;simp (maxSteps:=4000000) only[sN,↓hopH.eq_def,sH,↓sP,sA,tyS,simprocAttr,rbx,bE hmW,A2,cO,hw2,hxW,iC,A0,A4,A5,hmm,hm1,hm,hWp,F9,D9,B8,G8,G5 hm,hxt,aV hxt,hwc,L6,hne];repeat refine AI ?_
     refine hK' _ _ ?_;clear hK' K';iterate 19
      (refine bR (g:=none) rfl rfl fun K' hK'=>?_;simp only[sH,↓sP,sA,tyS,simprocAttr,rbx,bE hmW,A2,cO,hw2,hxW,iC,A0,A4,A5,hmm,hm1,hm,hWp,F9,D9,B8,G8,G5 hm,hxt,aV hxt,hwc,L6,hne];(repeat refine AI ?_);refine hK' _ _ ?_;clear hK' K')
     simp only[sE,↓reduceIte,simprocAttr];exact key (qV t x) _ _ _ (by rw[jX,aI2 hm0 hm,hx]) (by simp[qV]) (cF1 hxt hc) (aP (by omega) (by simp[gJ,fin_at,finA_at,upd_at,HV.men,HV.menL,HV.norm,HV.toC,HV.toCL,rbx,bA,bV,HV.menL_append,aN,xJ hxt,bE hmW]) (by simp[dC,fob_at,upd_at,none0_at,mF,HO.men,HV.men,HV.menL,HV.norm,HV.toC,HV.toCL,rbx,bA,bV,HV.menL_append,aN,xJ hxt,bE hmW]))
    refine aJ ?_;simp (maxSteps:=4000000) only[↓sP,sA,tyS,simprocAttr];exact key t _ _ _ (by rw[show m=0 by simpa using hb];rfl) rfl (fun x hx=>⟨(hc x hx).1,by have:=(hc x hx).2;omega⟩) (aP (by omega) (by simp[gJ,fin_at,finA_at,upd_at,HV.men,HV.menL,HV.norm,HV.toC,HV.toCL,rbx,bA,bV,HV.menL_append,aN]) (by simp[dC,fob_at,upd_at,none0_at,mF,HO.men,HV.men,HV.menL,HV.norm,HV.toC,HV.toCL,rbx,bA,bV,HV.menL_append,aN]))
   by_cases hmW:m=W.length
   ·
    refine aL (by kernel_rfl) ?_;simp only[sR,simprocAttr];iterate 6
     (refine aW (g:=none) rfl rfl fun K' hK'=>?_;simp only[sH,↓sP,sA,tyS,simprocAttr,rbx,hmW,bD,A2];(repeat refine AI ?_);refine hK' _ _ ?_;clear hK' K')
    simp only[sE,↓reduceIte,simprocAttr];exact key2 (decide ((0:Int)<(W.length:Int))) _ _ _ (by simp[hmW]) (aP (by omega) (by simp[gJ,fin_at,finA_at,upd_at,HV.men,HV.menL,HV.norm,HV.toC,HV.toCL,rbx,bA,bV,HV.menL_append,aN,hmW,bD]) (by simp[dC,fob_at,upd_at,none0_at,mF,HO.men,HV.men,HV.menL,HV.norm,HV.toC,HV.toCL,rbx,bA,bV,HV.menL_append,aN,hmW,bD]))
   have hWp:0<W.length:=by omega
   refine aL (by kernel_rfl) ?_;simp only[sR,simprocAttr];iterate 6
    (refine aW (g:=none) rfl rfl fun K' hK'=>?_;simp only[sH,↓sP,sA,tyS,simprocAttr,rbx,bE hmW,A2,hWp,hm,F9,D9,B8,G8,G5 hm];(repeat refine AI ?_);refine hK' _ _ ?_;clear hK' K')
   simp only[sE,↓reduceIte,simprocAttr];exact key2 (decide ((0:Int)<(m:Int))) _ _ _ (by simp) (aP (by omega) (by simp[gJ,fin_at,finA_at,upd_at,HV.men,HV.menL,HV.norm,HV.toC,HV.toCL,rbx,bA,bV,HV.menL_append,aN,bE hmW]) (by simp[dC,fob_at,upd_at,none0_at,mF,HO.men,HV.men,HV.menL,HV.norm,HV.toC,HV.toCL,rbx,bA,bV,HV.menL_append,aN,bE hmW]))
  by_cases hL:w.length=1
  ·
   by_cases hP:wd w 0=wEnd
   ·
    by_cases hmW:m=W.length
    ·
     refine aL (by kernel_rfl) ?_;simp only[sR,simprocAttr];iterate 4
      (refine aW (g:=none) rfl rfl fun K' hK'=>?_;simp only[sH,↓sP,sA,tyS,simprocAttr,rbx,hL,hw0,(show(wd w 0==[101,110,100])=true from by rw[hP];decide),hmW,bD,List.length_map];(repeat refine AI ?_);refine hK' _ _ ?_;clear hK' K')
     iterate 4
      (refine aW (g:=some (115,true)) rfl rfl fun K' hK'=>?_;simp only[sH,↓sP,sA,tyS,simprocAttr,rbx,hL,hw0,(show(wd w 0==[101,110,100])=true from by rw[hP];decide),hmW,bD,List.length_map];(repeat refine AI ?_);refine hK' _ _ ?_;clear hK' K')
     iterate 2
      (refine aW (g:=none) rfl rfl fun K' hK'=>?_;simp only[sH,↓sP,sA,tyS,simprocAttr,rbx,hL,hw0,(show(wd w 0==[101,110,100])=true from by rw[hP];decide),hmW,bD,List.length_map];(repeat refine AI ?_);refine hK' _ _ ?_;clear hK' K')
     iterate 6
      (refine aW (g:=some (121,true)) rfl rfl fun K' hK'=>?_;simp only[sH,↓sP,sA,tyS,simprocAttr,rbx,hL,hw0,(show(wd w 0==[101,110,100])=true from by rw[hP];decide),hmW,bD,List.length_map];(repeat refine AI ?_);refine hK' _ _ ?_;clear hK' K')
     refine aW (g:=none) rfl rfl fun K' hK'=>?_;simp (maxSteps:=4000000) only[sH,↓sP,sA,tyS,simprocAttr,rbx,hL,hw0,(show(wd w 0==[101,110,100])=true from by rw[hP];decide),hmW,bD,List.length_map];repeat refine AI ?_
     refine hK' _ _ ?_;clear hK' K';simp only[sE,↓reduceIte,simprocAttr];exact key (decide ((0:Int)<(W.length:Int))) _ _ _ (by simp[eY,hL,hP,hmW]) (aP (by omega) (by simp[gJ,fin_at,finA_at,upd_at,HV.men,HV.menL,HV.norm,HV.toC,HV.toCL,rbx,bA,bV,HV.menL_append,aN,hmW,bD]) (by simp[dC,fob_at,upd_at,none0_at,mF,HO.men,HV.men,HV.menL,HV.norm,HV.toC,HV.toCL,rbx,bA,bV,HV.menL_append,aN,hmW,bD]))
    have hWp:0<W.length:=by omega
    refine aL (by kernel_rfl) ?_;simp only[sR,simprocAttr];iterate 4
     (refine aW (g:=none) rfl rfl fun K' hK'=>?_;simp only[sH,↓sP,sA,tyS,simprocAttr,rbx,hL,hw0,(show(wd w 0==[101,110,100])=true from by rw[hP];decide),bE hmW,List.length_map,hWp,hm,Nat.zero_le,List.length_take,List.length_drop,Nat.sub_zero,Nat.min_eq_left hm];(repeat refine AI ?_);refine hK' _ _ ?_;clear hK' K')
    iterate 4
     (refine aW (g:=some (115,true)) rfl rfl fun K' hK'=>?_;simp only[sH,↓sP,sA,tyS,simprocAttr,rbx,hL,hw0,(show(wd w 0==[101,110,100])=true from by rw[hP];decide),bE hmW,List.length_map,hWp,hm,Nat.zero_le,List.length_take,List.length_drop,Nat.sub_zero,Nat.min_eq_left hm];(repeat refine AI ?_);refine hK' _ _ ?_;clear hK' K')
    iterate 2
     (refine aW (g:=none) rfl rfl fun K' hK'=>?_;simp only[sH,↓sP,sA,tyS,simprocAttr,rbx,hL,hw0,(show(wd w 0==[101,110,100])=true from by rw[hP];decide),bE hmW,List.length_map,hWp,hm,Nat.zero_le,List.length_take,List.length_drop,Nat.sub_zero,Nat.min_eq_left hm];(repeat refine AI ?_);refine hK' _ _ ?_;clear hK' K')
    iterate 6
     (refine aW (g:=some (121,true)) rfl rfl fun K' hK'=>?_;simp only[sH,↓sP,sA,tyS,simprocAttr,rbx,hL,hw0,(show(wd w 0==[101,110,100])=true from by rw[hP];decide),bE hmW,List.length_map,hWp,hm,Nat.zero_le,List.length_take,List.length_drop,Nat.sub_zero,Nat.min_eq_left hm];(repeat refine AI ?_);refine hK' _ _ ?_;clear hK' K')
    refine aW (g:=none) rfl rfl fun K' hK'=>?_;simp (maxSteps:=4000000) only[sH,↓sP,sA,tyS,simprocAttr,rbx,hL,hw0,(show(wd w 0==[101,110,100])=true from by rw[hP];decide),bE hmW,List.length_map,hWp,hm,Nat.zero_le,List.length_take,List.length_drop,Nat.sub_zero,Nat.min_eq_left hm];repeat refine AI ?_
    refine hK' _ _ ?_;clear hK' K';simp only[sE,↓reduceIte,simprocAttr];exact key (decide ((0:Int)<(m:Int))) _ _ _ (by simp[eY,hL,hP]) (aP (by omega) (by simp[gJ,fin_at,finA_at,upd_at,HV.men,HV.menL,HV.norm,HV.toC,HV.toCL,rbx,bA,bV,HV.menL_append,aN,bE hmW]) (by simp[dC,fob_at,upd_at,none0_at,mF,HO.men,HV.men,HV.menL,HV.norm,HV.toC,HV.toCL,rbx,bA,bV,HV.menL_append,aN,bE hmW]))
   refine aL (by kernel_rfl) ?_;simp only[sR,simprocAttr];iterate 4
    (refine aW (g:=none) rfl rfl fun K' hK'=>?_;simp only[sH,↓sP,sA,tyS,simprocAttr,hL,hw0,(show(wd w 0==[101,110,100])=false from H4 hP)];(repeat refine AI ?_);refine hK' _ _ ?_;clear hK' K')
   iterate 4
    (refine aW (g:=some (115,true)) rfl rfl fun K' hK'=>?_;simp only[sH,↓sP,sA,tyS,simprocAttr,hL,hw0,(show(wd w 0==[101,110,100])=false from H4 hP)];(repeat refine AI ?_);refine hK' _ _ ?_;clear hK' K')
   iterate 2
    (refine aW (g:=none) rfl rfl fun K' hK'=>?_;simp only[sH,↓sP,sA,tyS,simprocAttr,hL,hw0,(show(wd w 0==[101,110,100])=false from H4 hP)];(repeat refine AI ?_);refine hK' _ _ ?_;clear hK' K')
   iterate 6
    (refine aW (g:=some (121,true)) rfl rfl fun K' hK'=>?_;simp only[sH,↓sP,sA,tyS,simprocAttr,hL,hw0,(show(wd w 0==[101,110,100])=false from H4 hP)];(repeat refine AI ?_);refine hK' _ _ ?_;clear hK' K')
   refine aW (g:=none) rfl rfl fun K' hK'=>?_;simp (maxSteps:=4000000) only[sH,↓sP,sA,tyS,simprocAttr,hL,hw0,(show(wd w 0==[101,110,100])=false from H4 hP)];repeat refine AI ?_
   refine hK' _ _ ?_;clear hK' K';simp only[sE,↓reduceIte,simprocAttr];exact key false _ _ _ (by simp[eY,hP]) (aP (by omega) (by simp[gJ,fin_at,finA_at,upd_at,HV.men,HV.menL,HV.norm,HV.toC,HV.toCL,rbx,bA,bV,HV.menL_append,aN]) (by simp[dC,fob_at,upd_at,none0_at,mF,HO.men,HV.men,HV.menL,HV.norm,HV.toC,HV.toCL,rbx,bA,bV,HV.menL_append,aN]))
  refine aL (by kernel_rfl) ?_;simp only[sR,simprocAttr];iterate 4
   (refine aW (g:=none) rfl rfl fun K' hK'=>?_;simp only[sH,↓sP,sA,tyS,simprocAttr,(show((w.length:Int)==1)=false by simp;omega),hw0];(repeat refine AI ?_);refine hK' _ _ ?_;clear hK' K')
  iterate 4
   (refine aW (g:=some (115,true)) rfl rfl fun K' hK'=>?_;simp only[sH,↓sP,sA,tyS,simprocAttr,(show((w.length:Int)==1)=false by simp;omega),hw0];(repeat refine AI ?_);refine hK' _ _ ?_;clear hK' K')
  iterate 2
   (refine aW (g:=none) rfl rfl fun K' hK'=>?_;simp only[sH,↓sP,sA,tyS,simprocAttr,(show((w.length:Int)==1)=false by simp;omega),hw0];(repeat refine AI ?_);refine hK' _ _ ?_;clear hK' K')
  iterate 6
   (refine aW (g:=some (121,true)) rfl rfl fun K' hK'=>?_;simp only[sH,↓sP,sA,tyS,simprocAttr,(show((w.length:Int)==1)=false by simp;omega),hw0];(repeat refine AI ?_);refine hK' _ _ ?_;clear hK' K')
  refine aW (g:=none) rfl rfl fun K' hK'=>?_;simp (maxSteps:=4000000) only[sH,↓sP,sA,tyS,simprocAttr,(show((w.length:Int)==1)=false by simp;omega),hw0];repeat refine AI ?_
  refine hK' _ _ ?_;clear hK' K';simp only[sE,↓reduceIte,simprocAttr];exact key false _ _ _ (by simp[eY,hL]) (aP (by omega) (by simp[gJ,fin_at,finA_at,upd_at,HV.men,HV.menL,HV.norm,HV.toC,HV.toCL,rbx,bA,bV,HV.menL_append,aN]) (by simp[dC,fob_at,upd_at,none0_at,mF,HO.men,HV.men,HV.menL,HV.norm,HV.toC,HV.toCL,rbx,bA,bV,HV.menL_append,aN]))
 by_cases hdd:d=true
 ·
  refine aL (by kernel_rfl) ?_;simp only[sR,simprocAttr];iterate 6
   (refine aW (g:=none) rfl rfl fun K' hK'=>?_;simp only[sH,↓sP,sA,tyS,simprocAttr,rbx,hdd,aY,aS,aN];(repeat refine AI ?_);refine hK' _ _ ?_;clear hK' K')
  iterate 6
   (refine aW (g:=some (47,true)) rfl rfl fun K' hK'=>?_;simp only[sH,↓sP,sA,tyS,simprocAttr,rbx,hdd,aY,aS,aN];(repeat refine AI ?_);refine hK' _ _ ?_;clear hK' K')
  refine aW (g:=none) rfl rfl fun K' hK'=>?_;simp (maxSteps:=4000000) only[sH,↓sP,sA,tyS,simprocAttr,rbx,hdd,aY,aS,aN];repeat refine AI ?_
  refine hK' _ _ ?_;clear hK' K';simp only[sE,↓reduceIte,simprocAttr];exact key _ _ _ (aP (by omega) (by simp[gJ,fin_at,finA_at,upd_at,HV.men,HV.menL,HV.norm,HV.toC,HV.toCL,rbx,bA,bV,HV.menL_append,aN,hdd]) (by simp[dC,fob_at,upd_at,none0_at,mF,HO.men,HV.men,HV.menL,HV.norm,HV.toC,HV.toCL,rbx,bA,bV,HV.menL_append,aN,hdd]))
 by_cases hmW:m=W.length
 ·
  have hd0:d=false:=by simpa using hdd
  have hW0:((W.length:Int)==0)=false:=H4 (by have:=hd.resolve_left hdd;omega);refine aL (by kernel_rfl) ?_;simp only[sR,simprocAttr];iterate 6
   (refine aW (g:=none) rfl rfl fun K' hK'=>?_;simp only[sH,↓sP,sA,tyS,simprocAttr,rbx,hd0,hmW,bD,A2,hW0];(repeat refine AI ?_);refine hK' _ _ ?_;clear hK' K')
  iterate 6
   (refine aW (g:=some (47,true)) rfl rfl fun K' hK'=>?_;simp only[sH,↓sP,sA,tyS,simprocAttr,rbx,hd0,hmW,bD,A2,hW0];(repeat refine AI ?_);refine hK' _ _ ?_;clear hK' K')
  refine aW (g:=none) rfl rfl fun K' hK'=>?_;simp (maxSteps:=4000000) only[sH,↓sP,sA,tyS,simprocAttr,rbx,hd0,hmW,bD,A2,hW0];repeat refine AI ?_
  refine hK' _ _ ?_;clear hK' K';simp only[sE,↓reduceIte,simprocAttr];exact key _ _ _ (aP (by omega) (by simp[gJ,fin_at,finA_at,upd_at,HV.men,HV.menL,HV.norm,HV.toC,HV.toCL,rbx,bA,bV,HV.menL_append,aN,(show d=false by simpa using hdd),hmW,bD]) (by simp[dC,fob_at,upd_at,none0_at,mF,HO.men,HV.men,HV.menL,HV.norm,HV.toC,HV.toCL,rbx,bA,bV,HV.menL_append,aN,(show d=false by simpa using hdd),hmW,bD]))
 have hd0:d=false:=by simpa using hdd
 have hWp:0<W.length:=by omega
 have hm00:((m:Int)==0)=false:=H4 (by have:=hd.resolve_left hdd;omega);refine aL (by kernel_rfl) ?_;simp only[sR,simprocAttr];iterate 6
  (refine aW (g:=none) rfl rfl fun K' hK'=>?_;simp only[sH,↓sP,sA,tyS,simprocAttr,rbx,hd0,bE hmW,A2,hWp,hm,F9,D9,B8,G8,G5 hm,hm00];(repeat refine AI ?_);refine hK' _ _ ?_;clear hK' K')
 iterate 6
  (refine aW (g:=some (47,true)) rfl rfl fun K' hK'=>?_;simp only[sH,↓sP,sA,tyS,simprocAttr,rbx,hd0,bE hmW,A2,hWp,hm,F9,D9,B8,G8,G5 hm,hm00];(repeat refine AI ?_);refine hK' _ _ ?_;clear hK' K')
 refine aW (g:=none) rfl rfl fun K' hK'=>?_;simp (maxSteps:=4000000) only[sH,↓sP,sA,tyS,simprocAttr,rbx,hd0,bE hmW,A2,hWp,hm,F9,D9,B8,G8,G5 hm,hm00];repeat refine AI ?_
 refine hK' _ _ ?_;clear hK' K';simp only[sE,↓reduceIte,simprocAttr];exact key _ _ _ (aP (by omega) (by simp[gJ,fin_at,finA_at,upd_at,HV.men,HV.menL,HV.norm,HV.toC,HV.toCL,rbx,bA,bV,HV.menL_append,aN,(show d=false by simpa using hdd),bE hmW]) (by simp[dC,fob_at,upd_at,none0_at,mF,HO.men,HV.men,HV.menL,HV.norm,HV.toC,HV.toCL,rbx,bA,bV,HV.menL_append,aN,(show d=false by simpa using hdd),bE hmW]))
end Go.Proofs.YtlgckianjabghaaGreatDoor
namespace Go.Pl
open Go Go.Hl
theorem cN1 (q:Rq):(wlR q).length≤5:=by grind[wlR]
theorem cN2 (n:Nd):(wlN n).length≤5:=by grind[wlN]
theorem xK : ∀(f m:Nat) (l:List Nd),∀x∈eC f m l,x.length≤5
 |0,m,l,x,h=>by simp[eC]at h
 |f+1,0,l,x,h=>by cases l<;>simp[eC]at h
 |f+1,m+1,[],x,h=>by simp[eC]at h
 |f+1,m+1,n::l,x,h=>by
  simp only[eC]at h;split at h
  ·
   rcases E9.1 h with rfl|h
   · exact cN1 _
   · exact xK f _ _ x h
  ·
   rcases E9.1 h with rfl|h
   · exact cN2 _
   ·
    rcases F4.1 h with h|h
    · exact xK f _ _ x h
    ·
     rcases E9.1 h with rfl|h
     · simp
     · exact xK f _ _ x h
theorem sC (t:List Nd):fY t 0=aV4 t:=by simp[fY,aV4]
def mJ (p:Po)(i:Nat):List (List aH):=[wPolicy,p.n,numW p.v]::(p.r.take i).flatMap jB
variable {i:Nat}{p:Po}
theorem vK (hi:i<p.r.length):mJ p (i+1)=mJ p i++jB p.r[i]:=by grind[mJ,List.take_succ_eq_append_getElem]
theorem uA (p:Po):mJ p p.r.length=jM p:=by simp[mJ,jM]
theorem bS8 {r:Pr}(h:jW r=true):(jB r).length≤121:=by
 obtain⟨_,ht,_⟩:=jC h;have h0:0<r.t.length:=ht.ne;have h1:=zW ht h0;have h2:=(jL ht h0).2.1;have h3:=ht.len;grind[sC,jB,List.length_cons]
theorem zX {p:Po}(h: ∀r∈p.r,jW r=true): ∀i,i≤p.r.length→(mJ p i).length≤1+121*i
 |0,_=>by simp[mJ]
 |i+1,hi=>by
  have:=zX h i (by omega);grind[bS8,List.getElem_mem,vK,List.length_append]
theorem bL2 (p:Po): ∀x∈jM p,x.length<2^40:=by
 intro x hx;have:x.length≤5:=by
  simp only[jM]at hx;rcases E9.1 hx with rfl|hx
  · simp
  ·
   obtain⟨r,_,hx⟩:=K6.1 hx;simp only[jB]at hx;rcases E9.1 hx with rfl|hx
   · simp
   · exact xK _ _ _ x hx
 omega
def LsB (ls:List (List aH)):Prop:= ∀l∈ls,∀w∈l,w.length<2^40
variable {ls:List (List aH)}
theorem LsB.drop (h:LsB ls)(j:Nat):LsB (ls.drop j):=fun l hl=>h l (G1 hl)
theorem cU6 {l:List aH}(h: ∀w∈l,w.length<2^40)(i:Nat):(wd l i).length<2^40:=by grind[wd,Nat.lt_or_ge,List.getElem?_eq_getElem,List.getElem_mem,List.getElem?_eq_none]
variable {w:List aH}
theorem cU7 (h: ∀x∈w,x.length<2^40){q:Rq}(hq:dN w=some q):q.t.length<2^40:=by
 have h1:=cU6 h 1;have hm: ∀(k:Int) (o:Option Int),o.map (fun n=>(⟨k,n,0,[]⟩:Rq))=some q→q.t.length<2^40:=fun k o ho=>by
  cases o with
  |none=>grind
  |some n=>grind
 unfold dN at hq;split at hq
 · exact hm _ _ hq
 ·
  split at hq
  · grind
  ·
   split at hq
   · exact hm _ _ hq
   ·
    split at hq
    · grind
    ·
     split at hq
     · exact hm _ _ hq
     ·
      split at hq
      · exact hm _ _ hq
      ·
       split at hq
       · exact hm _ _ hq
       grind
theorem cU8 {n:Nd}(h:eL w=some n):n.q=rq0:=by grind[eL,bP,wd]
theorem cZ4 : ∀f,(∀ls,LsB ls→ ∀t,(rdN f ls).1=some t→ ∀n∈t,n.q.t.length<2^40)∧(∀ls,LsB ls→ ∀p,(rdK f ls).1=some p→ ∀n∈p.1,n.q.t.length<2^40)
 |0=>⟨fun ls _ t h=>by simp[rdN]at h,fun ls _ t h=>by simp[rdK]at h⟩
 |f+1=>by
  obtain⟨ihN,ihK⟩:=cZ4 f;refine⟨fun ls hb t h=>?_,fun ls hb p h=>?_⟩
  ·
   match ls with
   |[]=>simp[rdN]at h
   |w::r=>
    cases h1:dN w with
    |some q=>
     rw[pH h1]at h;cases h;intro n hn;rw[G0]at hn;subst hn;exact cU7 (hb w (by simp)) h1
    |none=>
     cases h2:eL w with
     |none=>grind[pI]
     |some n=>
      rw[qO h1 h2]at h;cases hk:(rdK f r).1 with
      |none=>simp[aB7,hk]at h
      |some p=>
       simp only[aB7,hk,H8,D6]at h;subst h;intro x hx;rcases E9.1 hx with rfl|hx
       · grind[cU8,rq0]
       · exact ihK r (fun l hl=>hb l (by grind)) p hk x hx
  ·
   cases he:eY (ls.headD [])with
   |true=>grind[aN8]
   |false=>
    match h2:rdN f ls with
    |(none,r)=>simp_all[bE4]
    |(some t,r)=>
     rw[zU he h2]at h;obtain⟨j,hj,_⟩:=(aN9 f).1 ls;rw[h2]at hj;have hj':r=ls.drop j:=hj;cases hk:(rdK f r).1 with
     |none=>simp[rZ,hk]at h
     |some q=>
      simp only[rZ,hk,H8,D6]at h;subst h;intro x hx;rcases F4.1 hx with hx|hx
      · grind
      · exact ihK r (by rw[hj'];exact hb.drop j) q hk x hx
def cU9 (r:Pr):Prop:=r.a.length<2^40∧ ∀n∈r.t,n.q.t.length<2^63
theorem cZ5 (hb:LsB ls){x:Pr}(h:(rdR ls).1=some x):cU9 x:=by
 match ls with
 |[]=>cases h
 |w::r=>
  simp only[rdR]at h;split at h
  ·
   cases hn:bP (wd w 4)with
   |none=>grind
   |some g=>
    rw[hn]at h;simp only at h
    match hm:rdT r with
    |(none,r')=>grind
    |(some t,r')=>
     rw[hm]at h;cases h;have h1:=(cZ4 (2*r.length+2)).1 r (fun l hl=>hb l (by grind)) t (by grind[rdT]);exact⟨cU6 (hb w (by simp)) 1,fun n hn=>Nat.lt_trans (h1 n hn) (by decide)⟩
  grind
theorem cF2 : ∀(f:Nat) (ls:List (List aH)) (acc:List Pr),LsB ls→(∀r∈acc,cU9 r)→ ∀l,(kN f ls acc).1=some l→(∀r∈l,cU9 r)∧l.length≤acc.length+f
 |0,ls,acc,_,_,l,h=>by simp[kN]at h
 |f+1,ls,acc,hb,ha,l,h=>by
  simp only[kN]at h;split at h
  · grind
  ·
   match hm:rdR ls with
   |(none,r)=>grind
   |(some x,r)=>
    rw[hm]at h;obtain⟨j,_,hj,_⟩:=aO0 ls;rw[hm]at hj;have hj':r=ls.drop j:=hj;have hx:=cZ5 hb (x:=x) (by rw[hm]);obtain⟨h1,h2⟩:=cF2 f r (acc++[x]) (by rw[hj'];exact hb.drop j) (fun y hy=>by grind) l h;grind
theorem cQ2 (hb:LsB ls)(hl:ls.length<2^39)(h:(rdP ls).1=some p):PoSz p:=by
 match ls with
 |[]=>cases h
 |w::r=>
  simp only[rdP]at h;split at h
  ·
   cases hn:bP (wd w 2)with
   |none=>grind
   |some v=>
    rw[hn]at h;simp only at h
    match hm:kN (r.length+1) r []with
    |(none,r')=>grind
    |(some l,r')=>
     rw[hm]at h;cases h;obtain⟨h1,h2⟩:=cF2 (r.length+1) r [] (fun x hx=>hb x (by grind)) (by simp) l (by rw[hm]);simp only[B0,E5]at hl h2;exact⟨G7 (cU6 (hb w (by simp)) 1) (by decide),by grind,fun x hx=>Nat.lt_of_lt_of_le (h1 x hx).1 (by decide),fun x hx=>(h1 x hx).2⟩
  grind
abbrev zM :Ms:=⟨[],0,[],[],false⟩
def RunM (ls:List (List aH))(i:Nat)(x:Ms):Prop:=
 (i=0∧x=zM)∨(0<i∧ ∃y,cW (ls.headD []) true zM=some y∧goM (ls.drop 1) y=goM (ls.drop i) x)
theorem RunM.first (hl:0<ls.length){y:Ms}(h:cW ls[0] true zM=some y):RunM ls 1 y:=by
 cases ls with
 |nil=>simp at hl
 |cons w r=>exact .inr ⟨by omega,y,h,rfl⟩
variable {x:Ms}
theorem RunM.next {y:Ms}(h:RunM ls i x)(h0:0<i)(hi:i<ls.length)(hs:cW ls[i] false x=some y):RunM ls (i+1) y:=by
 rcases h with h|⟨_,z,e1,e2⟩
 · omega
 · refine .inr ⟨by omega,z,e1,?_⟩;rw[e2,B2 hi,zL hs]
theorem RunM.no0 (hl:0<ls.length)(h:cW ls[0] true zM=none):rdP ls=(none,ls.drop 0):=by
 cases ls with
 |nil=>simp at hl
 |cons w r=>
  simp only[O8]at h;rw[←aM6];unfold cA5;simp only[h,L7]
theorem RunM.no (h:RunM ls i x)(h0:0<i)(hi:i<ls.length)(hs:cW ls[i] false x=none):rdP ls=(none,ls.drop i):=by
 rcases h with h|⟨_,z,e1,e2⟩
 · omega
 ·
  rw[B2 hi,aM4 hs,←List.drop_eq_getElem_cons hi]at e2;cases ls with
  |nil=>simp at hi
  |cons w r=>
   simp only[Q8]at e1;rw[←aM6];unfold cA5;simp only[e1];rw[List.drop_one,X5]at e2;rw[e2]
theorem RunM.done (h:RunM ls ls.length x)(h0:0<ls.length):rdP ls=if x.d=true∨x.o≠[]then(none,[])else(some ⟨x.n,x.v,x.r⟩,[]):=by
 rcases h with h|⟨_,z,e1,e2⟩
 · omega
 ·
  rw[S3]at e2;cases ls with
  |nil=>simp at h0
  |cons w r=>
   simp only[Q8]at e1;rw[←aM6];unfold cA5;simp only[e1];rw[List.drop_one,X5]at e2;rw[e2];rfl
theorem cF3 (b:aH):LsB (decO b):=fun l hl w hw=>by
 have:=(aM3 (b:=b) l hl).2.2 w hw;omega
variable {r:List (List aH)}{b:aH}
theorem cZ6 (he:dZ b=0)(h:rdP (decO b)=(none,r)):dpE b=2∧dpL b=(decO b).length-r.length∧dpO b=po0:=by
 have e1:dpE b=2:=by rw[dpE,A7 (by simpa using he),h]
 refine⟨e1,by rw[dpL,A7 (by simpa using he),h],by rw[dpO,e1,A7 (by decide)]⟩
theorem cZ7 (he:dZ b=0)(h:rdP (decO b)=(some p,r)):dpE b=(if fA p then 0 else 1)∧dpL b=0∧dpO b=if fA p then p else po0:=by
 have e1:dpE b=(if fA p then 0 else 1):=by rw[dpE,A7 (by simpa using he),h]
 refine⟨e1,by rw[dpL,A7 (by simpa using he),h],?_⟩;rw[dpO,e1,h];cases fA p<;>rfl
end Go.Pl
