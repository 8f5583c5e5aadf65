/- Part of a proof: walks of functions of the program, by contracts, and the rules they use. By an AI agent. -/
import Derived.Test.YthedbjfipmkpiaaGreatDoorHdX2
import Derived.Test.YthedbjfipmkpiaaGreatDoorHlTop
import Derived.Test.YthedbjfipmkpiaaGreatDoorHdUq
import Derived.Test.YthedbjfipmkpiaaGreatDoorPl31j
import Derived.Test.YthedbjfipmkpiaaGreatDoorHdV9
import Derived.Test.YthedbjfipmkpiaaGreatDoorPl31
import Derived.Test.YthedbjfipmkpiaaGreatDoorPl11c
import Derived.Test.YthedbjfipmkpiaaGreatDoorHdUp
set_option linter.unusedSimpArgs false
set_option linter.unusedVariables false
set_option linter.defProp false
namespace Go.Proofs.YthedbjfipmkpiaaGreatDoor
open Go Go.Hl Go.Pl
set_option maxRecDepth 10000
set_option maxHeartbeats 16000000
theorem cR9 {d:Dv}(h:DvR d):DvW d:=by
 refine⟨⟨by have:=h.t.1;omega,by have:=h.t.2;omega⟩,⟨by have:=h.r.1;omega,by have:=h.r.2;omega⟩,fun x hx=>?_,by have:=h.len;omega,by have:=h.ll;omega⟩;obtain⟨h1,h2⟩:=h.l x hx;exact⟨⟨by have:=h1.k.1;omega,by have:=h1.k.2;omega⟩,⟨by have:=h1.n.1;omega,by have:=h1.n.2;omega⟩,fun n hn=>⟨by have:=(h1.f n hn).1;omega,by have:=(h1.f n hn).2;omega⟩,by have:=h1.fl;omega,by omega⟩
theorem sK {ob:Ob}{r:HV}{T:pA}{n:Int}{R:CV→CV→Prop}(hr:r= .tup [.c (.agg [.agg [.str [],.str [],zd],.int .i64 0,zd,.int .i64 0,.agg [zd,.str [],.str []],.nils]),.c (.int .i64 n)])(hb:ob 0=some (.tab T))(hR:R dv0.cv (.int .i64 n)):
  iK 1 r ob (fun r ob'=> ∃u v,r= .tup [.c u,.c v]∧ob'=fV T∧R u v):=by
 subst hr;refine eW [] dv0.cv (.int .i64 n) ?_ hb (by simp) hR;simp[HV.close,HV.closeL,CV.denil,CV.denilL,HV.norm,HV.toC,HV.toCL,nP];rfl
theorem cG3 (b:aL)(hl:b.length<2^40):rO Tryz.prog 27 tabs [.slc (b.map u8)] (fun u v=>u=(ddO b).cv∧v= .int .i64 (ddE b)):=by
 refine bQ (args:=[.c (.slc (b.map u8))]) Tryz.func27 rfl (by kernel_rfl) (gA tabs [.slc (b.map u8)]) (Nat.le_of_ble_eq_true rfl) ?_;unfold fV;have hlen:=bT6 (b:=b);have hwo:=cC7 (b:=b);have hdl:CV.denilL ((mL b).map lsC)=(mL b).map lsC:=bY bW0 _;refine aC fun K hK=>aD (by kernel_rfl) ?_;simp (maxSteps:=4000000) only[↓sP,sA,tyS,simprocAttr];repeat refine AI ?_
 refine hK _ _ _ ?_;clear hK K;refine aC fun K hK=>aD (by kernel_rfl) ?_;simp only[sR,simprocAttr];refine aE (g:=none) rfl rfl fun K' hK'=>?_;simp (maxSteps:=4000000) only[sH,↓sP,sA,tyS,simprocAttr,denilL_u8];repeat refine AI ?_
 refine hK' _ _ ?_;clear hK' K';refine aE (g:=none) rfl rfl fun K' hK'=>?_;simp (maxSteps:=4000000) only[sH,↓sP,sA,tyS,simprocAttr,denilL_u8];refine eP (args:=[_]) (cM5 b hl) ⟨rfl,rfl,rfl,rfl⟩ ?_;rintro u v ⟨rfl,rfl⟩;repeat refine AI ?_
 refine hK' _ _ ?_;clear hK' K';iterate 5
  (refine aE (g:=none) rfl rfl fun K' hK'=>?_;simp only[sH,↓sP,sA,tyS,simprocAttr,denilL_u8];(repeat refine AI ?_);refine hK' _ _ ?_;clear hK' K')
 simp only[sE,↓reduceIte,simprocAttr];repeat refine AI ?_
 refine hK _ _ _ ?_;clear hK K;refine aC fun K hK=>?_;refine aC fun K hK=>aD (by kernel_rfl) ?_;simp (maxSteps:=4000000) only[↓sP,sA,tyS,simprocAttr];repeat refine AI ?_
 refine hK _ _ _ ?_;clear hK K;refine aJ (b:=!(kM b==0)) rfl (fun hb=>?_) (fun hb=>?_)
 ·
  have he:kM b≠0:=by simpa using hb
  have e1:ddE b=kM b:=by rw[ddE,if_pos he]
  have e2:ddO b=dv0:=by rw[ddO,tT,if_neg he];rfl
  clear hb;refine aC fun K hK=>aD (by kernel_rfl) ?_;simp only[sR,simprocAttr];iterate 4
   (refine aE (g:=none) rfl rfl fun K' hK'=>?_;simp only[sH,↓sP,sA,tyS,simprocAttr,dH,dI];(repeat refine AI ?_);refine hK' _ _ ?_;clear hK' K')
  simp only[sE,↓reduceIte,simprocAttr];repeat refine AI ?_
  refine hK _ _ _ ?_;clear hK K;refine aH ?_;simp (maxSteps:=4000000) only[bK,Tryz.results27,bH,bJ,bG,↓sP,sA,tyS,simprocAttr];refine sK (n:=kM b) rfl rfl ⟨by rw[e2],by rw[e1]⟩
 refine aN ?_;simp (maxSteps:=4000000) only[↓sP,sA,tyS,simprocAttr];repeat refine AI ?_
 refine hK _ _ _ ?_;clear hK K;have he:kM b=0:=by simpa using hb
 clear hb;have e1:ddE b=if(tT b).isSome then 0 else 2:=by rw[ddE,if_neg (by simpa using he)]
 have e0:tT b=(gM (mL b)).bind fun d=>if dvE d=0∧dvO d=b then some d else none:=by rw[tT,if_pos he]
 refine aC fun K hK=>aD (by kernel_rfl) ?_;simp only[sR,simprocAttr];refine aE (g:=none) rfl rfl fun K' hK'=>?_;simp (maxSteps:=4000000) only[sH,↓sP,sA,tyS,simprocAttr,hdl];repeat refine AI ?_
 refine hK' _ _ ?_;clear hK' K';refine aE (g:=none) rfl rfl fun K' hK'=>?_;simp (maxSteps:=4000000) only[sH,↓sP,sA,tyS,simprocAttr,hdl];refine eP (args:=[_]) (cE6 (mL b) (by omega) (fun l h=>⟨List.length_pos_iff.2 (hwo l h).1,by have:=(hwo l h).2.1;omega⟩) (fun l h w hw=>by have:=(hwo l h).2.2 w hw;omega)) ⟨rfl,rfl,rfl,rfl⟩ ?_;rintro u v ⟨rfl,x,rfl,hx⟩;repeat refine AI ?_
 refine hK' _ _ ?_;clear hK' K';iterate 6
  (refine aE (g:=none) rfl rfl fun K' hK'=>?_;simp only[sH,↓sP,sA,tyS,simprocAttr,hdl];(repeat refine AI ?_);refine hK' _ _ ?_;clear hK' K')
 simp only[sE,↓reduceIte,simprocAttr];repeat refine AI ?_
 refine hK _ _ _ ?_;clear hK K;refine aC fun K hK=>?_;refine aC fun K hK=>aD (by kernel_rfl) ?_;simp (maxSteps:=4000000) only[↓sP,sA,tyS,simprocAttr];repeat refine AI ?_
 refine hK _ _ _ ?_;clear hK K;refine aJ (b:=!(gM (mL b)).isSome) rfl (fun hb=>?_) (fun hb=>?_)
 ·
  have hno:gM (mL b)=none:=by simpa using hb
  have e3:tT b=none:=by rw[e0,hno];rfl
  have e1:ddE b=2:=by rw[e1,e3];rfl
  have e2:ddO b=dv0:=by rw[ddO,e3];rfl
  clear hb;refine aC fun K hK=>aD (by kernel_rfl) ?_;simp (maxSteps:=4000000) only[↓sP,sA,tyS,simprocAttr,dH,dI];repeat refine AI ?_
  refine hK _ _ _ ?_;clear hK K;refine aH ?_;simp (maxSteps:=4000000) only[bK,Tryz.results27,bH,bJ,bG,↓sP,sA,tyS,simprocAttr];refine sK (n:=2) rfl rfl ⟨by rw[e2],by rw[e1]⟩
 obtain⟨d,hd⟩:=Option.isSome_iff_exists.1 (show(gM (mL b)).isSome=true by simpa using hb);obtain rfl:=hx d hd;clear hb hx;rw[hd,Option.bind_some]at e0;have hw:=cR9 (cG2 hwo hlen hd);refine aN ?_;simp (maxSteps:=4000000) only[↓sP,sA,tyS,simprocAttr];repeat refine AI ?_
 refine hK _ _ _ ?_;clear hK K;refine aC fun K hK=>?_;refine aC fun K hK=>aD (by kernel_rfl) ?_;simp only[sR,simprocAttr];refine aE (g:=none) rfl rfl fun K' hK'=>?_;simp (maxSteps:=4000000) only[sH,↓sP,sA,tyS,simprocAttr];repeat refine AI ?_
 refine hK' _ _ ?_;clear hK' K';refine aE (g:=none) rfl rfl fun K' hK'=>?_;simp (maxSteps:=4000000) only[sH,↓sP,sA,tyS,simprocAttr];refine fW (args:=[_]) 0 (aP8 x hw) rfl (by simp) ⟨rfl,rfl,rfl,rfl⟩ ?_;rintro u v ⟨rfl,rfl⟩;repeat refine AI ?_
 refine hK' _ _ ?_;clear hK' K';iterate 5
  (refine aE (g:=none) rfl rfl fun K' hK'=>?_;simp only[sH,↓sP,sA,tyS,simprocAttr];(repeat refine AI ?_);refine hK' _ _ ?_;clear hK' K')
 simp only[sE,↓reduceIte,simprocAttr];repeat refine AI ?_
 refine hK _ _ _ ?_;clear hK K;refine aC fun K hK=>aD (by kernel_rfl) ?_;simp only[sR,simprocAttr];iterate 3
  (refine aE (g:=none) rfl rfl fun K' hK'=>?_;simp only[sH,↓sP,sA,tyS,simprocAttr,cO,denilL_u8];(repeat refine AI ?_);refine hK' _ _ ?_;clear hK' K')
 refine aG 33 rfl (fun h8_33=>?_) (fun h8_33=>?_)
 ·
  iterate 4
   (refine aE (g:=some (34,false)) rfl rfl fun K' hK'=>?_;simp only[sH,↓sP,sA,tyS,simprocAttr,cO,denilL_u8,h8_33];(repeat refine AI ?_);refine hK' _ _ ?_;clear hK' K')
  refine aE (g:=none) rfl rfl fun K' hK'=>?_;simp (maxSteps:=4000000) only[sH,↓sP,sA,tyS,simprocAttr,cO,denilL_u8,h8_33];repeat refine AI ?_
  refine hK' _ _ ?_;clear hK' K';simp only[sE,↓reduceIte,simprocAttr];repeat refine AI ?_
  refine hK _ _ _ ?_;clear hK K;refine aJ (b:=true) rfl (fun hb=>?_) (fun hb=>?_)
  ·
   refine aC fun K hK=>aD (by kernel_rfl) ?_;simp (maxSteps:=4000000) only[↓sP,sA,tyS,simprocAttr,dH,dI];repeat refine AI ?_
   refine hK _ _ _ ?_;clear hK K;refine aH ?_;simp (maxSteps:=4000000) only[bK,Tryz.results27,bH,bJ,bG,↓sP,sA,tyS,simprocAttr];have e3:tT b=none:=by
    rw[e0,if_neg];rintro⟨h1,h2⟩;first|(rw[h1]at h8_33;exact absurd h8_33 (by decide))|(rw[h2]at h8_37;simp at h8_37)
   have e1:ddE b=2:=by rw[e1,e3];rfl
   have e2:ddO b=dv0:=by rw[ddO,e3];rfl
   refine sK (n:=2) rfl rfl ⟨by rw[e2],by rw[e1]⟩
  cases hb
 iterate 2
  (refine aE (g:=some (34,false)) rfl rfl fun K' hK'=>?_;simp only[sH,↓sP,sA,tyS,simprocAttr,cO,denilL_u8,h8_33];(repeat refine AI ?_);refine hK' _ _ ?_;clear hK' K')
 refine aE (g:=some (34,false)) rfl rfl fun K' hK'=>?_;simp (maxSteps:=4000000) only[sH,↓sP,sA,tyS,simprocAttr,cO,denilL_u8,h8_33];refine cB (args:=[_,_]) (bK6 (dvO x) b) ⟨rfl,rfl,rfl,rfl⟩ ?_;rintro u rfl;repeat refine AI ?_
 refine hK' _ _ ?_;clear hK' K';refine aE (g:=some (34,false)) rfl rfl fun K' hK'=>?_;simp (maxSteps:=4000000) only[sH,↓sP,sA,tyS,simprocAttr,cO,denilL_u8,h8_33];repeat refine AI ?_
 refine hK' _ _ ?_;clear hK' K';refine aE (g:=none) rfl rfl fun K' hK'=>?_;simp (maxSteps:=4000000) only[sH,↓sP,sA,tyS,simprocAttr,cO,denilL_u8,h8_33];repeat refine AI ?_
 refine hK' _ _ ?_;clear hK' K';refine aG 37 rfl (fun h8_37=>?_) (fun h8_37=>?_)
 ·
  simp only[h8_37];simp only[sE,↓reduceIte,simprocAttr];repeat refine AI ?_
  refine hK _ _ _ ?_;clear hK K;refine aJ (b:=false) rfl (fun hb=>?_) (fun hb=>?_)
  · cases hb
  refine aN ?_;simp (maxSteps:=4000000) only[↓sP,sA,tyS,simprocAttr];repeat refine AI ?_
  refine hK _ _ _ ?_;clear hK K;refine aC fun K hK=>aD (by kernel_rfl) ?_;simp (maxSteps:=4000000) only[↓sP,sA,tyS,simprocAttr];repeat refine AI ?_
  refine hK _ _ _ ?_;clear hK K;refine aH ?_;simp (maxSteps:=4000000) only[bK,Tryz.results27,bH,bJ,bG,↓sP,sA,tyS,simprocAttr];have e3:tT b=some x:=by rw[e0,if_pos ⟨by simpa using h8_33,by simpa using h8_37⟩]
  have e1:ddE b=0:=by rw[e1,e3];rfl
  have e2:ddO b=x:=by rw[ddO,e3];rfl
  exact eW [] x.cv (.int .i64 0) (by simp[HV.close,HV.closeL,Dv.denil,CV.denil,HV.norm,HV.toC,HV.toCL]) rfl (by simp) ⟨by rw[e2],by rw[e1]⟩
 simp only[h8_37];simp only[sE,↓reduceIte,simprocAttr];repeat refine AI ?_
 refine hK _ _ _ ?_;clear hK K;refine aJ (b:=true) rfl (fun hb=>?_) (fun hb=>?_)
 ·
  refine aC fun K hK=>aD (by kernel_rfl) ?_;simp (maxSteps:=4000000) only[↓sP,sA,tyS,simprocAttr,dH,dI];repeat refine AI ?_
  refine hK _ _ _ ?_;clear hK K;refine aH ?_;simp (maxSteps:=4000000) only[bK,Tryz.results27,bH,bJ,bG,↓sP,sA,tyS,simprocAttr];have e3:tT b=none:=by
   rw[e0,if_neg];rintro⟨h1,h2⟩;first|(rw[h1]at h8_33;exact absurd h8_33 (by decide))|(rw[h2]at h8_37;simp at h8_37)
  have e1:ddE b=2:=by rw[e1,e3];rfl
  have e2:ddO b=dv0:=by rw[ddO,e3];rfl
  refine sK (n:=2) rfl rfl ⟨by rw[e2],by rw[e1]⟩
 cases hb
end Go.Proofs.YthedbjfipmkpiaaGreatDoor
namespace Go.Pl
open Go Go.Hl
variable {q:Rq}
theorem bX0 (h:(q.k==1||(q.k==3||q.k==5))=true):eF q=(inB q.n 1 32&&fS q ⟨q.k,q.n,0,[]⟩):=by grind[eF,fS]
theorem aQ3 (h:q.k=4):eF q=((inB q.n 1 32&&inB q.m 0 32)&&fS q ⟨q.k,q.n,q.m,[]⟩):=by simp[eF,h,fS,Bool.and_assoc]
theorem bX1 (h:q.k=2):eF q=(eK q.t&&fS q ⟨q.k,0,0,q.t⟩):=by simp[eF,h,fS]
theorem bX2 (h:q.k=6):eF q=(inB q.n 1 10&&fS q ⟨q.k,q.n,0,[]⟩):=by simp[eF,h,fS]
theorem bX3 (h:q.k=7):eF q=(inB q.n 0 vG&&fS q ⟨q.k,q.n,0,[]⟩):=by simp[eF,h,fS]
theorem bX4 (h:q.k=8):eF q=(true&&fS q ⟨q.k,0,0,[]⟩):=by simp[eF,h,fS]
theorem bD4 (h:(q.k==1||(q.k==3||q.k==5))=false)(h4:q.k≠4)(h2:q.k≠2)(h6:q.k≠6)(h7:q.k≠7)(h8:q.k≠8):eF q=false:=by simp_all[eF,if_neg]
theorem yK (h:(q.k==1||(q.k==3||q.k==5))=true):eF q=(inB q.n 1 32&&(q.m==0&&q.t==[])):=by simp_all[eF,if_pos]
theorem sL (h:(q.k==4)=true):eF q=(inB q.n 1 32&&(decide (0≤q.m)&&(decide (q.m≤32)&&q.t==[]))):=by grind[eF,inB,Bool.and_assoc]
theorem yL (h:(q.k==2)=true):eF q=(q.n==0&&(q.m==0&&eK q.t)):=by grind[eF,eK]
theorem sM (h:(q.k==6)=true):eF q=(decide (1≤q.n)&&(decide (q.n≤10)&&(q.m==0&&q.t==[]))):=by grind[eF,inB,Bool.and_assoc]
theorem yM (h:(q.k==7)=true):eF q=(inN q.n&&(q.m==0&&q.t==[])):=by
 have h':q.k=7:=by simpa using h
 have e:inB q.n 0 vG=inN q.n:=rfl;simp[eF,h',e]
theorem yN (h:(q.k==8)=true):eF q=(q.n==0&&(q.m==0&&q.t==[])):=by grind[eF]
def oC (n:Nd):Bool:=
 if n.k=1 then n.c==0&&(n.n==0&&eF n.q)
 else if n.k=2∨n.k=3 then decide (1≤n.c)&&(n.n==0&&fS n.q rq0)
 else if n.k=4 then decide (1≤n.c)&&(decide (1≤n.n)&&(decide (n.n≤n.c)&&fS n.q rq0))
 else false
theorem aI2 (n:Nd):cW n=(oC n&&!decide (60<n.c)):=by
 unfold cW oC inB;have e:(!decide (60<n.c))=decide (n.c≤60):=by
  by_cases h:n.c≤60
  · rw[decide_eq_true h,decide_eq_false (by omega)];rfl
  · rw[decide_eq_false h,decide_eq_true (by omega)];rfl
 rw[e];split
 ·
  by_cases h:n.c=0
  · simp[h]
  · simp[h]
 ·
  split
  · generalize decide (1≤n.c)=A;generalize decide (n.c≤60)=B;generalize fS n.q rq0=C;generalize (n.n==0)=D;cases A<;>cases B<;>cases C<;>cases D<;>rfl
  ·
   split
   · generalize decide (1≤n.c)=A;generalize decide (n.c≤60)=B;generalize fS n.q rq0=C;generalize decide (1≤n.n)=D;generalize decide (n.n≤n.c)=E;cases A<;>cases B<;>cases C<;>cases D<;>cases E<;>rfl
   · rfl
variable {n:Nd}
theorem qN (h:n.k=1):cW n=(n.c==0&&(n.n==0&&eF n.q)):=by simp only[cW,if_pos h]
theorem aE1 (h:(n.k==2||n.k==3)=true):cW n=((inB n.c 1 60&&fS n.q rq0)&&n.n==0):=by
 have h':n.k=2∨n.k=3:=by simpa using h
 have h1:n.k≠1:=by omega
 simp_all[cW,if_neg,if_pos,Bool.and_assoc]
theorem qO (h:n.k=4):cW n=((inB n.c 1 60&&fS n.q rq0)&&inB n.n 1 n.c):=by simp_all[cW,if_neg,if_pos,Bool.and_assoc]
theorem bX5 (h1:n.k≠1)(h:(n.k==2||n.k==3)=false)(h4:n.k≠4):cW n=false:=by simp_all[cW,if_neg]
theorem qP (h:n.k=1):oC n=(n.c==0&&(n.n==0&&eF n.q)):=by simp only[oC,if_pos h]
theorem tX (h:(n.k==2||n.k==3)=true):oC n=(decide (1≤n.c)&&(n.n==0&&fS n.q rq0)):=by
 have h':n.k=2∨n.k=3:=by simpa using h
 have h1:n.k≠1:=by omega
 simp_all[oC,if_neg,if_pos]
theorem mQ (h:n.k=4):oC n=(decide (1≤n.c)&&(decide (1≤n.n)&&(decide (n.n≤n.c)&&fS n.q rq0))):=by simp_all[oC,if_neg,if_pos]
theorem bX6 (h1:n.k≠1)(h:(n.k==2||n.k==3)=false)(h4:n.k≠4):oC n=false:=by simp_all[oC,if_neg]
structure ScSt (l:List Nd)(i:Nat)(m v:Int):Prop where
 le:i≤l.length
 eq:rG l 1 0=rG (l.drop i) m v
 m0:0≤m
 m1:m≤1+60*i
 v0:0≤v
 v1:v≤i
theorem ScSt.init (l:List Nd):ScSt l 0 1 0:=⟨by omega,rfl,by omega,by omega,by omega,by omega⟩
variable {m v:Int}{i:Nat}{l:List Nd}
theorem ScSt.stop (h:ScSt l i m v)(hi:i<l.length)(hb:m=0∨cW l[i]=false):dN l=false:=by
 have:rG l 1 0=none:=by
  rw[h.eq,List.drop_eq_getElem_cons hi,rG];rcases hb with hb|hb
  · rw[if_pos hb]
  · grind
 simp[dN,this]
theorem ScSt.next (h:ScSt l i m v)(hi:i<l.length)(hm:m≠0)(hb:cW l[i]=true):ScSt l (i+1) (m+(l[i].c-1)) (if l[i].k=1 then v+1 else v):=by
 obtain⟨c1,c2,_,_⟩:=eL hb;have h0:=h.m0;have h1:=h.m1;have h2:=h.v0;have h3:=h.v1;refine⟨hi,?_,by omega,by omega,?_,?_⟩
 · rw[h.eq,List.drop_eq_getElem_cons hi,rG,if_neg hm,if_pos hb]
 all_goals grind
theorem ScSt.fin (h:ScSt l l.length m v)(h1:1≤l.length)(h2:l.length≤60):dN l=(m==0&&decide (v≤16)):=by
 have:rG l 1 0=some (m,v):=by rw[h.eq,List.drop_length];rfl
 grind[dN]
theorem kU (h:l.length<1∨60<l.length):dN l=false:=by grind[dN]
theorem iR {l:List Nd}{i:Int}(h:dN l=false∨i<0∨(l.length:Int)≤i):nR l i=[]:=by
 unfold nR;grind
theorem oV (h:dN l=true)(hi:i<l.length):nR l i=cV l l[i].c.toNat (i+1):=by simp_all[nR,if_pos,aG6]
theorem uZ (h:dN l=false):dE l=[]:=by simp[dE,h]
theorem kH (h:dN l=true):dE l=dZ 0 l:=by simp[dE,h]
theorem lD : ∀{l:List Bool} {k:Nat},k<l.length→cnt (l.take (k+1))=cnt (l.take k)+(if l.getD k false=true then 1 else 0)
 |x::l,0,_=>by cases x<;>simp[cnt]
 |x::l,k+1,h=>by
  have h':k<l.length:=by simpa using h
  have e: ∀m,cnt ((x::l).take (m+1))=(if x=true then 1 else 0)+cnt (l.take m):=fun m=>by grind[cnt]
  rw[e,e,lD h'];grind
theorem vQ (h:i<l.length):lv (l.take (i+1))=lv (l.take i)+(if l[i].k=1 then 1 else 0):=by grind[List.take_succ_eq_append_getElem,tH,lv]
theorem yO (l:List Nd)(i:Nat):lv (l.take i)≤i:=by grind[bA1]
def bwL (l:List Nd):List (List CV):=(List.range l.length).map fun j=>[.int .i64 (l.length-1-j:Nat),(l.getD (l.length-1-j) nd0).cv]
theorem sO (l:List Nd):(bwL l).length=l.length:=by simp[bwL]
theorem bX7 {l:List Nd}{j:Nat}(h:j<(bwL l).length)(h2:l.length-1-j<l.length):(bwL l)[j]=[.int .i64 (l.length-1-j:Nat),(l[l.length-1-j]).cv]:=by simp[bwL,h2]
end Go.Pl
namespace Go.Proofs.YthedbjfipmkpiaaGreatDoor
open Go Go.Hl Go.Pl
set_option maxRecDepth 10000
set_option maxHeartbeats 16000000
theorem co3 :Tryz.prog.cellsOf 3=1:=by kernel_rfl
theorem co2 :Tryz.prog.cellsOf 2=1:=by kernel_rfl
theorem co9 :Tryz.prog.cellsOf 9=1:=by kernel_rfl
theorem cJ1 (n:Nat)(x:Rq):CV.ofTy Tryz.prog (n+2) 87 x.cv=true:=by
 simp only[Rq.cv,CV.ofTyF,CV.ofTy,tyS,co2,co3,co9,CV.cells,beq_self_eq_true,Bool.and_true]
theorem aI3 (x y:Rq)(K:CV→Prop):jI Tryz.prog .eql 87 (.c x.cv) (.c y.cv) K=K (.bool (fS x y)):=by
 have ha:aY8 Tryz.prog 87=true:=by kernel_rfl
 have h1:=cJ1 6 x;have h2:=cJ1 6 y;have e:CV.eqv (.agg [.int .i64 x.k,.int .i64 x.n,.int .i64 x.m,.str x.t]) (.agg [.int .i64 y.k,.int .i64 y.n,.int .i64 y.m,.str y.t])=fS x y:=by simp only[CV.eqv,CV.eqvL,fS,Bool.and_true]
 simp only[Rq.cv]at h1 h2⊢;simp only[jI,ha,h1,h2,e,true_and]
theorem bX8 :CV.agg [.int .i64 0,.int .i64 0,.int .i64 0,.str []]=rq0.cv:=rfl
theorem lX (n a b:Int):cF Tryz.prog 153 [.int .i64 n,.int .i64 a,.int .i64 b] (fun v=>v= .bool (inB n a b)):=by
 refine FW Tryz.func153 ?_;refine R0 ?_;refine aC fun K hK=>Rg ?_;iterate 4 refine S0 ?_
 refine aG 9 rfl (fun h1_9=>?_) (fun h1_9=>?_)
 ·
  have F:=h1_9;iterate 5 refine SF ?_
  refine T2 (hK _ _ _ ?_);clear hK K;refine aH (RT Tryz.results153 ?_);exact aK [] (.bool _) rfl (by simp only[inB,h1_9,Bool.true_and,Bool.false_and])
 have F:=h1_9;iterate 5 refine SF ?_
 refine T2 (hK _ _ _ ?_);clear hK K;refine aH (RT Tryz.results153 ?_);exact aK [] (.bool _) rfl (by simp only[inB,h1_9,Bool.true_and,Bool.false_and])
theorem aQ4 (q:Rq)(hn:q.t.length<2^63):cF Tryz.prog 128 [q.cv] (fun v=>v= .bool (eF q)):=by
 refine FW Tryz.func128 ?_;refine R0 ?_;refine aC fun K hK=>Rg ?_;iterate 5 refine S0 ?_
 refine T2 (hK _ _ _ ?_);clear hK K;refine R0 ?_;refine aC fun K hK=>?_;have key0: ∀(s:Bool) (u:Rq) fr ob nx,eF q=(s&&fS q u)→Fits 0 fr ob (fin [(1,.ptr 0 0),(3,.ptr 20 0),(4,.c (.bool s))]) (fob [(0,.box 87 (.c q.cv)),(20,.box 87 (.c u.cv))]) 1000→K fr ob nx:=by
  rintro s u fr ob nx hq hf;refine hK _ _ _ (bO hf ?_);clear hf hK K;refine aC fun K hK=>Rg ?_;have F:=@aI3;iterate 2 refine SF ?_
  refine aG 62 rfl (fun h18_62=>?_) (fun h18_62=>?_)
  ·
   have F:=aI @aI3 h18_62;iterate 5 refine SF ?_
   refine T2 (hK _ _ _ ?_);clear hK K;refine aH (RT Tryz.results128 ?_);exact aK [] (.bool _) rfl (by rw[hq,h18_62,Bool.true_and])
  have F:=aI @aI3 h18_62;iterate 5 refine SF ?_
  refine T2 (hK _ _ _ ?_);clear hK K;refine aH (RT Tryz.results128 ?_);exact aK [] (.bool false) rfl (by rw[hq,h18_62,Bool.false_and])
 refine R0 ?_;refine aO ?_;refine aC fun K hK=>?_;have key: ∀(b:Bool) fr ob nx,b=(q.k==1||(q.k==3||q.k==5))→Fits 0 fr ob (fin [(1,.ptr 0 0),(3,.ptr 20 0),(4,.c (.bool true)),(9,.c (.int .i64 q.k)),(10,.c (.bool b))]) (fob [(0,.box 87 (.c q.cv)),(20,.box 87 (.c (Rq.cv ⟨q.k,0,0,[]⟩)))]) 300→K fr ob nx:=by
  rintro b fr ob nx rfl hf;refine hK _ _ _ (bO hf ?_);clear hf hK K;refine aJ (b:=_) rfl (fun hb=>?_) (fun hb=>?_)
  ·
   refine DW [(0,[],[]),(1,[],[]),(2,[],[]),(3,[],[]),(5,[],[]),(4,[],[0,1,5]),(6,[],[]),(7,[],[])] [0,1,0,4,12,3,63,127] ?_;iterate 5 refine W0 ?_
   refine aV (g:=none) rfl rfl fun K' hK'=>T5 ?_;refine C3 (lX _ _ _) ?_;rintro u rfl;refine AX (hK' _ _ ?_);clear hK' K';iterate 2 refine W0 ?_
   refine T4 ?_;exact key0 (inB q.n 1 32) ⟨q.k,q.n,0,[]⟩ _ _ _ (bX0 hb) (fF)
  have h1:=hb;refine R0 ?_;refine aJ (b:=_) rfl (fun hb=>?_) (fun hb=>?_)
  ·
   refine DW [(0,[],[]),(1,[],[]),(2,[],[]),(3,[],[]),(4,[],[]),(5,[],[]),(12,[],[]),(6,[],[0,1,2,3,12]),(7,[],[]),(8,[],[]),(9,[],[]),(10,[],[0,1,2,3,12]),(11,[],[]),(13,[],[2,3,11]),(14,[],[]),(15,[],[11]),(16,[],[])] [0,1,0,4,0,16,48,112,240,496,1008,2032,3,6131,14335,30719,65535] ?_;iterate 7 refine W0 ?_
   refine aV (g:=none) rfl rfl fun K' hK'=>T5 ?_;refine C3 (lX _ _ _) ?_;rintro u rfl;refine AX (hK' _ _ ?_);clear hK' K';refine W0 ?_;refine iB 28 rfl (fun h10_28=>?_) (fun h10_28=>?_)
   ·
    have F:=h10_28;iterate 2 refine WF ?_
    refine aV (g:=some (29,true)) rfl rfl fun K' hK'=>T6 ?_;refine C3 (lX _ _ _) ?_;rintro u rfl;refine AX (hK' _ _ ?_);clear hK' K';iterate 5 refine WF ?_
    refine T4 ?_;exact key0 (inB q.m 0 32) ⟨q.k,q.n,q.m,[]⟩ _ _ _ (by rw[aQ3 (by simpa using hb),h10_28,Bool.true_and]) (fF)
   have F:=h10_28;iterate 8 refine WF ?_
   refine T4 ?_;exact key0 false ⟨q.k,q.n,q.m,[]⟩ _ _ _ (by rw[aQ3 (by simpa using hb),h10_28];rfl) (fF)
  have h2:=hb;refine R0 ?_;refine aJ (b:=_) rfl (fun hb=>?_) (fun hb=>?_)
  ·
   refine DW [(0,[],[]),(1,[],[]),(2,[],[]),(3,[],[]),(5,[],[]),(4,[],[0,1,5]),(6,[],[]),(7,[],[])] [0,1,0,4,12,3,63,127] ?_;iterate 5 refine W0 ?_
   refine aV (g:=none) rfl rfl fun K' hK'=>T5 ?_;refine C1 (cD3 _ hn) ?_;rintro u rfl;refine AX (hK' _ _ ?_);clear hK' K';iterate 2 refine W0 ?_
   refine T4 ?_;exact key0 (eK q.t) ⟨q.k,0,0,q.t⟩ _ _ _ (bX1 (by simpa using hb)) (fF)
  have h3:=hb;refine R0 ?_;refine aJ (b:=_) rfl (fun hb=>?_) (fun hb=>?_)
  ·
   refine DW [(0,[],[]),(1,[],[]),(2,[],[]),(3,[],[]),(5,[],[]),(4,[],[0,1,5]),(6,[],[]),(7,[],[])] [0,1,0,4,12,3,63,127] ?_;iterate 5 refine W0 ?_
   refine aV (g:=none) rfl rfl fun K' hK'=>T5 ?_;refine C3 (lX _ _ _) ?_;rintro u rfl;refine AX (hK' _ _ ?_);clear hK' K';iterate 2 refine W0 ?_
   refine T4 ?_;exact key0 (inB q.n 1 10) ⟨q.k,q.n,0,[]⟩ _ _ _ (bX2 (by simpa using hb)) (fF)
  have h4:=hb;refine R0 ?_;refine aJ (b:=_) rfl (fun hb=>?_) (fun hb=>?_)
  ·
   refine DW [(0,[],[]),(1,[],[]),(2,[],[]),(3,[],[]),(5,[],[]),(4,[],[0,1,5]),(6,[],[]),(7,[],[])] [0,1,0,4,12,3,63,127] ?_;iterate 5 refine W0 ?_
   refine aV (g:=none) rfl rfl fun K' hK'=>T5 ?_;refine C3 (lX _ _ _) ?_;rintro u rfl;refine AX (hK' _ _ ?_);clear hK' K';iterate 2 refine W0 ?_
   refine T4 ?_;exact key0 (inB q.n 0 1099511627776) ⟨q.k,q.n,0,[]⟩ _ _ _ (bX3 (by simpa using hb)) (fF)
  have h5:=hb;refine R0 ?_;refine aJ (b:=_) rfl (fun hb=>?_) (fun hb=>?_)
  · refine aN (T3 ?_);exact key0 true ⟨q.k,0,0,[]⟩ _ _ _ (bX4 (by simpa using hb)) (fF)
  refine R0 ?_;refine aH (RT Tryz.results128 ?_);exact aK [] (.bool false) rfl (by rw[bD4 h1 (by simpa using h2) (by simpa using h3) (by simpa using h4) (by simpa using h5) (by simpa using hb)])
 refine R0 ?_;refine aJ (b:=_) rfl (fun hb=>?_) (fun hb=>?_)
 · refine aN (T3 ?_);exact key (q.k==1) _ _ _ (by rw[hb];rfl) (fF)
 have h1:=hb;refine R0 ?_;refine aJ (b:=_) rfl (fun hb=>?_) (fun hb=>?_)
 · refine aN (T3 ?_);exact key (q.k==3) _ _ _ (by rw[h1,hb];rfl) (fF)
 have h1':=hb;refine aD (by kernel_rfl) ?_;simp only[↓sP,sA,tyS,simprocAttr];exact key (q.k==5) _ _ _ (by rw[h1,h1'];rfl) (fF)
theorem bX9 (n:Nd)(hn:n.q.t.length<2^63):cF Tryz.prog 98 [n.cv] (fun v=>v= .bool (cW n)):=by
 refine FW Tryz.func98 ?_;refine R0 ?_;refine aC fun K hK=>?_;have key: ∀(b:Bool) fr ob nx,b=(inB n.c 1 60&&fS n.q rq0)→Fits 0 fr ob (fin [(1,.ptr 0 0),(3,.c (.bool b))]) (fob [(0,.box 89 (.c n.cv))]) 100→K fr ob nx:=by
  rintro b fr ob nx rfl hf;refine hK _ _ _ (bO hf ?_);clear hf hK K;refine aC fun K hK=>?_;refine R0 ?_;refine aO ?_;refine R0 ?_;refine aJ (b:=_) rfl (fun hb=>?_) (fun hb=>?_)
  ·
   refine aC fun K hK=>Rg ?_;iterate 4 refine S0 ?_
   refine aG 24 rfl (fun h4_24=>?_) (fun h4_24=>?_)
   ·
    have F:=h4_24;iterate 5 refine SF ?_
    refine aG 28 rfl (fun h4_28=>?_) (fun h4_28=>?_)
    ·
     have F:=aI h4_24 h4_28;iterate 2 refine SF ?_
     refine aE (g:=some (30,true)) rfl rfl fun K' hK'=>T6 ?_;refine C1 (aQ4 n.q hn) ?_;rintro u rfl;refine AX (hK' _ _ ?_);clear hK' K';iterate 2 refine SF ?_
     refine T2 (hK _ _ _ ?_);clear hK K;refine aH (RT Tryz.results98 ?_);exact aK [] (.bool _) rfl (by rw[qN (by simpa using hb),h4_24,h4_28];rfl)
    have F:=aI h4_24 h4_28;iterate 5 refine SF ?_
    refine T2 (hK _ _ _ ?_);clear hK K;refine aH (RT Tryz.results98 ?_);exact aK [] (.bool _) rfl (by rw[qN (by simpa using hb),h4_24,h4_28];rfl)
   have F:=h4_24;iterate 10 refine SF ?_
   refine T2 (hK _ _ _ ?_);clear hK K;refine aH (RT Tryz.results98 ?_);exact aK [] (.bool _) rfl (by rw[qN (by simpa using hb),h4_24];rfl)
  have h1:n.k≠1:=by simpa using hb
  refine aC fun K hK=>?_;have key2: ∀(b:Bool) fr ob nx,b=(n.k==2||n.k==3)→Fits 0 fr ob (fin [(1,.ptr 0 0),(3,.c (.bool (inB n.c 1 60&&fS n.q rq0))),(19,.c (.int .i64 n.k)),(35,.c (.bool b))]) (fob [(0,.box 89 (.c n.cv))]) 300→K fr ob nx:=by
   rintro b fr ob nx rfl hf;refine hK _ _ _ (bO hf ?_);clear hf hK K;refine aJ (b:=_) rfl (fun hb=>?_) (fun hb=>?_)
   ·
    refine aC fun K hK=>Rg ?_;iterate 2 refine S0 ?_
    refine aG 38 rfl (fun h7_38=>?_) (fun h7_38=>?_)
    ·
     have F:=h7_38;iterate 5 refine SF ?_
     refine T2 (hK _ _ _ ?_);clear hK K;refine aH (RT Tryz.results98 ?_);exact aK [] (.bool _) rfl (by rw[aE1 hb,h7_38,Bool.true_and])
    have F:=h7_38;iterate 5 refine SF ?_
    refine T2 (hK _ _ _ ?_);clear hK K;refine aH (RT Tryz.results98 ?_);exact aK [] (.bool _) rfl (by rw[aE1 hb,h7_38,Bool.false_and])
   have h2:=hb;refine R0 ?_;refine aJ (b:=_) rfl (fun hb=>?_) (fun hb=>?_)
   ·
    refine aC fun K hK=>Rg ?_;iterate 2 refine S0 ?_
    refine aG 46 rfl (fun h9_46=>?_) (fun h9_46=>?_)
    ·
     have F:=h9_46;iterate 5 refine SF ?_
     refine aG 50 rfl (fun h9_50=>?_) (fun h9_50=>?_)
     ·
      have F:=aI h9_46 h9_50;iterate 7 refine SF ?_
      refine T2 (hK _ _ _ ?_);clear hK K;refine aH (RT Tryz.results98 ?_);exact aK [] (.bool _) rfl (by rw[qO (by simpa using hb),h9_46,inB,h9_50];rfl)
     have F:=aI h9_46 h9_50;iterate 7 refine SF ?_
     refine T2 (hK _ _ _ ?_);clear hK K;refine aH (RT Tryz.results98 ?_);exact aK [] (.bool _) rfl (by rw[qO (by simpa using hb),h9_46,inB,h9_50];rfl)
    have F:=h9_46;iterate 12 refine SF ?_
    refine T2 (hK _ _ _ ?_);clear hK K;refine aH (RT Tryz.results98 ?_);exact aK [] (.bool _) rfl (by rw[qO (by simpa using hb),h9_46,Bool.false_and])
   refine aN ?_;refine T0 (hK _ _ _ ?_);clear hK K;refine R0 ?_;refine aH (RT Tryz.results98 ?_);exact aK [] (.bool _) rfl (by rw[bX5 h1 h2 (by simpa using hb)])
  refine R0 ?_;refine aJ (b:=_) rfl (fun hb=>?_) (fun hb=>?_)
  · refine aN (T3 ?_);exact key2 (n.k==2) _ _ _ (by rw[hb];rfl) (fF)
  have h2:=hb;refine aD (by kernel_rfl) ?_;simp only[↓sP,sA,tyS,simprocAttr];exact key2 (n.k==3) _ _ _ (by rw[hb];rfl) (fF)
 refine Rg ?_;have F:=aI @aI3 @bX8;iterate 4 refine SF ?_
 refine aG 6 rfl (fun h1_6=>?_) (fun h1_6=>?_)
 ·
  have F:=aI @aI3 (aI @bX8 h1_6);iterate 5 refine SF ?_
  refine aG 10 rfl (fun h1_10=>?_) (fun h1_10=>?_)
  ·
   have F:=aI @aI3 (aI @bX8 (aI h1_6 h1_10));iterate 6 refine SF ?_
   refine aG 16 rfl (fun h1_16=>?_) (fun h1_16=>?_)
   · simp only[h1_16];refine T4 ?_;exact key true _ _ _ (by first|(simp only[inB,rq0,h1_6,h1_10,h1_16,Bool.true_and,Bool.false_and,Bool.and_false,Bool.and_true];done)|(simp only[inB,h1_6,h1_10,Bool.true_and];exact Eq.symm h1_16)) (fF)
   simp only[h1_16];refine T4 ?_;exact key false _ _ _ (by first|(simp only[inB,rq0,h1_6,h1_10,h1_16,Bool.true_and,Bool.false_and,Bool.and_false,Bool.and_true];done)|(simp only[inB,h1_6,h1_10,Bool.true_and];exact Eq.symm h1_16)) (fF)
  have F:=aI @aI3 (aI @bX8 (aI h1_6 h1_10));iterate 6 refine SF ?_
  refine T4 ?_;exact key false _ _ _ (by first|(simp only[inB,rq0,h1_6,h1_10,Bool.true_and,Bool.false_and,Bool.and_false,Bool.and_true];done)|(simp only[inB,h1_6,h1_10,Bool.true_and];exact Eq.symm h1_16)) (fF)
 have F:=aI @aI3 (aI @bX8 h1_6);iterate 11 refine SF ?_
 refine T4 ?_;exact key false _ _ _ (by first|(simp only[inB,rq0,h1_6,Bool.true_and,Bool.false_and,Bool.and_false,Bool.and_true];done)|(simp only[inB,h1_6,h1_10,Bool.true_and];exact Eq.symm h1_16)) (fF)
theorem cD (n:Int)(h: -4611686018427387904≤n∧n≤4611686018427387904):IntKind.i64.wrap n=n:=IntWalk.i64_in _ (by omega)
theorem bD5 (l:List Nd)(hn: ∀n∈l,n.q.t.length<2^63):cF Tryz.prog 64 [.slc (l.map Nd.cv)] (fun v=>v= .bool (dN l)):=by
 refine FW Tryz.func64 ?_;refine R0 ?_;refine aC fun K hK=>?_;refine aC fun K hK=>Rg ?_;iterate 4 refine S0 ?_
 refine aG 9 rfl (fun h1_9=>?_) (fun h1_9=>?_)
 ·
  have F:=h1_9;iterate 4 refine SF ?_
  refine T2 (hK _ _ _ ?_);clear hK K;refine CT rfl ?_;refine R0 ?_;refine aH (RT Tryz.results64 ?_);exact aK [] (.bool false) rfl (by rw[kU (.inl (by simp only[decide_eq_true_eq]at h1_9;omega))])
 have F:=h1_9;iterate 4 refine SF ?_
 refine aG 13 rfl (fun h1_13=>?_) (fun h1_13=>?_)
 · simp only[h1_13];refine T2 (hK _ _ _ ?_);clear hK K;refine CT rfl ?_;refine R0 ?_;refine aH (RT Tryz.results64 ?_);exact aK [] (.bool false) rfl (by rw[kU (.inr (by simp only[decide_eq_true_eq]at h1_13;omega))])
 simp only[h1_13];refine T2 (hK _ _ _ ?_);clear hK K;refine CF rfl ?_;refine aN ?_;refine T0 (hK _ _ _ ?_);clear hK K;have hl1:1≤l.length:=by simp only[decide_eq_false_iff_not]at h1_9;omega
 have hl2:l.length≤60:=by simp only[decide_eq_false_iff_not]at h1_13;omega
 clear h1_9 h1_13;refine R0 ?_;refine aC fun K hK=>?_;refine R0 ?_;refine aO ?_;refine bP (α:={y:Nat×Int×Int//ScSt l y.1 y.2.1 y.2.2}) (fun y=>(fin [(3,.c (.int .i64 y.1.2.1)),(4,.c (.int .i64 y.1.2.2)),(15,.c (.slc (l.map Nd.cv))),(16,.c (.int .i64 l.length)),(17,.c (.int .i64 y.1.1))],fob [])) 200 (fun y=>l.length-y.1.1) ⟨(0,1,0),ScSt.init l⟩ (fF) ?_;rintro⟨⟨i,m,v⟩,hst⟩;simp only at hst;have hi:=hst.le;have hm0:=hst.m0;have hm1:=hst.m1;have hv0:=hst.v0;have hv1:=hst.v1;refine R0 ?_;refine aC fun K hK=>?_;refine aJ (b:=decide ((i:Int)<l.length)) rfl (fun hb=>?_) (fun hb=>?_)
 ·
  have hlt:i<l.length:=by simpa using hb
  clear hb;refine aN ?_;refine T0 (hK _ _ _ ?_);clear hK K;refine aC fun K hK=>?_;refine aO ?_;refine aC fun K hK=>Rg ?_;have F:=aI @Int.natCast_nonneg (aI @Int.ofNat_lt (aI hlt (nM hlt)));iterate 4 refine SF ?_
  refine T2 (hK _ _ _ ?_);clear hK K;refine aC fun K hK=>?_;refine aC fun K hK=>Rg ?_;iterate 3 refine S0 ?_
  refine aG 22 rfl (fun h7_22=>?_) (fun h7_22=>?_)
  ·
   have F:=h7_22;iterate 4 refine SF ?_
   refine T2 (hK _ _ _ ?_);clear hK K;refine CT rfl ?_;refine R0 ?_;refine aH (RT Tryz.results64 ?_);exact aK [] (.bool false) rfl (by rw[hst.stop hlt (.inl (by simpa using h7_22))])
  have F:=h7_22;refine SF ?_;refine aE (g:=some (23,false)) rfl rfl fun K' hK'=>T6 ?_;refine C1 (bX9 l[i] (hn _ (List.getElem_mem hlt))) ?_;rintro u rfl;refine AX (hK' _ _ ?_);clear hK' K';iterate 2 refine SF ?_
  refine aG 25 rfl (fun h7_25=>?_) (fun h7_25=>?_)
  ·
   simp only[h7_25];refine T2 (hK _ _ _ ?_);clear hK K;refine CF rfl ?_;refine aN ?_;refine T0 (hK _ _ _ ?_);clear hK K;have hnb:cW l[i]=true:=by simpa using h7_25
   have hm:m≠0:=by simpa using h7_22
   obtain⟨c1,c2,c3,c4⟩:=eL hnb;have hnx:=hst.next hlt hm hnb;clear h7_22 h7_25;refine aC fun K hK=>Rg ?_;iterate 6 refine S0 ?_ (e:=fun _ h_=>by simp only[sH,↓sP,sA,tyS,simprocAttr,cD (l[i].c-1) (by omega),cD (m+(l[i].c-1)) (by omega)];exact AX h_)
   refine T2 (hK _ _ _ ?_);clear hK K;refine R0 ?_;refine aJ (b:=_) rfl (fun hb=>?_) (fun hb=>?_)
   · refine aD (by kernel_rfl) ?_;simp only[↓sP,sA,tyS,simprocAttr,cD (v+1) (by omega)];refine AX (hK _ _ _ ?_);clear hK K;refine aD (by kernel_rfl) ?_;simp only[↓sP,sA,tyS,simprocAttr,cD ((i:Int)+1) (by omega)];rw[if_pos (by simpa using hb)]at hnx;refine⟨⟨(i+1,_,_),hnx⟩,fF,?_⟩;show l.length-(i+1)<l.length-i;omega
   refine aN ?_;refine T0 (hK _ _ _ ?_);clear hK K;refine aD (by kernel_rfl) ?_;simp only[↓sP,sA,tyS,simprocAttr,cD ((i:Int)+1) (by omega)];rw[if_neg (by simpa using hb)]at hnx;refine⟨⟨(i+1,_,_),hnx⟩,fF,?_⟩;show l.length-(i+1)<l.length-i;omega
  simp only[h7_25];refine T2 (hK _ _ _ ?_);clear hK K;refine CT rfl ?_;refine R0 ?_;refine aH (RT Tryz.results64 ?_);exact aK [] (.bool false) rfl (by rw[hst.stop hlt (.inr (by simpa using h7_25))])
 refine bB (T3 ?_);clear hK K;refine AX (hK _ _ _ ?_);clear hK K;have hei:i=l.length:=by simp only[decide_eq_false_iff_not]at hb;omega
 subst hei;have hf:=hst.fin hl1 hl2;clear hb;refine aC fun K hK=>Rg ?_;iterate 3 refine S0 ?_
 refine aG 40 rfl (fun h13_40=>?_) (fun h13_40=>?_)
 ·
  have F:=h13_40;iterate 4 refine SF ?_
  refine T2 (hK _ _ _ ?_);clear hK K;refine aH (RT Tryz.results64 ?_);exact aK [] (.bool _) rfl (by rw[hf,h13_40,Bool.true_and])
 have F:=h13_40;iterate 4 refine SF ?_
 refine T2 (hK _ _ _ ?_);clear hK K;refine aH (RT Tryz.results64 ?_);exact aK [] (.bool false) rfl (by rw[hf,h13_40,Bool.false_and])
theorem cG4 (q:Rq)(hn:q.t.length<2^63):cF Tryz.prog 133 [q.cv] (fun v=>v= .bool (eF q)):=by
 refine FW Tryz.func133 ?_;refine R0 ?_;refine aC fun K hK=>?_;have key0: ∀(b:Bool) fr ob nx,b=inB q.n 1 32→Fits 0 fr ob (fin [(1,.ptr 0 0),(3,.c (.bool b))]) (fob [(0,.box 87 (.c q.cv))]) 100→K fr ob nx:=by
  rintro b fr ob nx rfl hf;refine hK _ _ _ (bO hf ?_);clear hf hK K;refine aC fun K hK=>?_;refine R0 ?_;refine aO ?_;refine aC fun K hK=>?_;have key: ∀(b:Bool) fr ob nx,b=(q.k==1||(q.k==3||q.k==5))→Fits 0 fr ob (fin [(1,.ptr 0 0),(3,.c (.bool (inB q.n 1 32))),(13,.c (.int .i64 q.k)),(14,.c (.bool b))]) (fob [(0,.box 87 (.c q.cv))]) 300→K fr ob nx:=by
   rintro b fr ob nx rfl hf;refine hK _ _ _ (bO hf ?_);clear hf hK K;refine aJ (b:=_) rfl (fun hb=>?_) (fun hb=>?_)
   ·
    refine aC fun K hK=>Rg ?_;iterate 2 refine S0 ?_
    refine aG 18 rfl (fun h6_18=>?_) (fun h6_18=>?_)
    ·
     have F:=h6_18;iterate 5 refine SF ?_
     refine aG 22 rfl (fun h6_22=>?_) (fun h6_22=>?_)
     ·
      have F:=aI h6_18 h6_22;iterate 5 refine SF ?_
      refine T2 (hK _ _ _ ?_);clear hK K;refine aH (RT Tryz.results133 ?_);exact aK [] (.bool _) rfl (by rw[yK hb,h6_18,h6_22];rfl)
     have F:=aI h6_18 h6_22;iterate 5 refine SF ?_
     refine T2 (hK _ _ _ ?_);clear hK K;refine aH (RT Tryz.results133 ?_);exact aK [] (.bool _) rfl (by rw[yK hb,h6_18,h6_22];rfl)
    have F:=h6_18;iterate 10 refine SF ?_
    refine T2 (hK _ _ _ ?_);clear hK K;refine aH (RT Tryz.results133 ?_);exact aK [] (.bool _) rfl (by rw[yK hb,h6_18];rfl)
   have h1:=hb;refine R0 ?_;refine aJ (b:=_) rfl (fun hb=>?_) (fun hb=>?_)
   ·
    refine aC fun K hK=>Rg ?_;iterate 2 refine S0 ?_
    refine aG 31 rfl (fun h8_31=>?_) (fun h8_31=>?_)
    ·
     have F:=h8_31;iterate 5 refine SF ?_
     refine aG 35 rfl (fun h8_35=>?_) (fun h8_35=>?_)
     ·
      have F:=aI h8_31 h8_35;iterate 5 refine SF ?_
      refine aG 40 rfl (fun h8_40=>?_) (fun h8_40=>?_)
      ·
       have F:=aI h8_31 (aI h8_35 h8_40);iterate 5 refine SF ?_
       refine T2 (hK _ _ _ ?_);clear hK K;refine aH (RT Tryz.results133 ?_);exact aK [] (.bool _) rfl (by rw[sL hb,h8_31,h8_35,h8_40];rfl)
      have F:=aI h8_31 (aI h8_35 h8_40);iterate 5 refine SF ?_
      refine T2 (hK _ _ _ ?_);clear hK K;refine aH (RT Tryz.results133 ?_);exact aK [] (.bool _) rfl (by rw[sL hb,h8_31,h8_35,h8_40];rfl)
     have F:=aI h8_31 h8_35;iterate 10 refine SF ?_
     refine T2 (hK _ _ _ ?_);clear hK K;refine aH (RT Tryz.results133 ?_);exact aK [] (.bool _) rfl (by rw[sL hb,h8_31,h8_35];rfl)
    have F:=h8_31;iterate 15 refine SF ?_
    refine T2 (hK _ _ _ ?_);clear hK K;refine aH (RT Tryz.results133 ?_);exact aK [] (.bool _) rfl (by rw[sL hb,h8_31];rfl)
   have h2:=hb;refine R0 ?_;refine aJ (b:=_) rfl (fun hb=>?_) (fun hb=>?_)
   ·
    refine aC fun K hK=>Rg ?_;iterate 4 refine S0 ?_
    refine aG 51 rfl (fun h10_51=>?_) (fun h10_51=>?_)
    ·
     have F:=h10_51;iterate 5 refine SF ?_
     refine aG 55 rfl (fun h10_55=>?_) (fun h10_55=>?_)
     ·
      have F:=aI h10_51 h10_55;iterate 2 refine SF ?_
      refine aE (g:=some (57,true)) rfl rfl fun K' hK'=>T6 ?_;refine C1 (bV2 _ hn) ?_;rintro u rfl;refine AX (hK' _ _ ?_);clear hK' K';iterate 2 refine SF ?_
      refine T2 (hK _ _ _ ?_);clear hK K;refine aH (RT Tryz.results133 ?_);exact aK [] (.bool _) rfl (by rw[yL hb,h10_51,h10_55];rfl)
     have F:=aI h10_51 h10_55;iterate 5 refine SF ?_
     refine T2 (hK _ _ _ ?_);clear hK K;refine aH (RT Tryz.results133 ?_);exact aK [] (.bool _) rfl (by rw[yL hb,h10_51,h10_55];rfl)
    have F:=h10_51;iterate 10 refine SF ?_
    refine T2 (hK _ _ _ ?_);clear hK K;refine aH (RT Tryz.results133 ?_);exact aK [] (.bool _) rfl (by rw[yL hb,h10_51];rfl)
   have h3:=hb;refine R0 ?_;refine aJ (b:=_) rfl (fun hb=>?_) (fun hb=>?_)
   ·
    refine aC fun K hK=>Rg ?_;iterate 4 refine S0 ?_
    refine aG 66 rfl (fun h12_66=>?_) (fun h12_66=>?_)
    ·
     have F:=h12_66;iterate 5 refine SF ?_
     refine aG 70 rfl (fun h12_70=>?_) (fun h12_70=>?_)
     ·
      have F:=aI h12_66 h12_70;iterate 5 refine SF ?_
      refine aG 75 rfl (fun h12_75=>?_) (fun h12_75=>?_)
      ·
       have F:=aI h12_66 (aI h12_70 h12_75);iterate 5 refine SF ?_
       refine T2 (hK _ _ _ ?_);clear hK K;refine aH (RT Tryz.results133 ?_);exact aK [] (.bool _) rfl (by rw[sM hb,h12_66,h12_70,h12_75];rfl)
      have F:=aI h12_66 (aI h12_70 h12_75);iterate 5 refine SF ?_
      refine T2 (hK _ _ _ ?_);clear hK K;refine aH (RT Tryz.results133 ?_);exact aK [] (.bool _) rfl (by rw[sM hb,h12_66,h12_70,h12_75];rfl)
     have F:=aI h12_66 h12_70;iterate 10 refine SF ?_
     refine T2 (hK _ _ _ ?_);clear hK K;refine aH (RT Tryz.results133 ?_);exact aK [] (.bool _) rfl (by rw[sM hb,h12_66,h12_70];rfl)
    have F:=h12_66;iterate 15 refine SF ?_
    refine T2 (hK _ _ _ ?_);clear hK K;refine aH (RT Tryz.results133 ?_);exact aK [] (.bool _) rfl (by rw[sM hb,h12_66];rfl)
   have h4:=hb;refine R0 ?_;refine aJ (b:=_) rfl (fun hb=>?_) (fun hb=>?_)
   ·
    refine aC fun K hK=>Rg ?_;iterate 2 refine S0 ?_
    refine HS rfl rfl fun K' hK'=>T5 ?_;refine C1 (aX2 _) ?_;rintro u rfl;refine AX (hK' _ _ ?_);clear hK' K';refine S0 ?_;refine aG 86 rfl (fun h14_86=>?_) (fun h14_86=>?_)
    ·
     have F:=h14_86;iterate 5 refine SF ?_
     refine aG 90 rfl (fun h14_90=>?_) (fun h14_90=>?_)
     ·
      have F:=aI h14_86 h14_90;iterate 5 refine SF ?_
      refine T2 (hK _ _ _ ?_);clear hK K;refine aH (RT Tryz.results133 ?_);exact aK [] (.bool _) rfl (by rw[yM hb,h14_86,h14_90];rfl)
     have F:=aI h14_86 h14_90;iterate 5 refine SF ?_
     refine T2 (hK _ _ _ ?_);clear hK K;refine aH (RT Tryz.results133 ?_);exact aK [] (.bool _) rfl (by rw[yM hb,h14_86,h14_90];rfl)
    have F:=h14_86;iterate 10 refine SF ?_
    refine T2 (hK _ _ _ ?_);clear hK K;refine aH (RT Tryz.results133 ?_);exact aK [] (.bool _) rfl (by rw[yM hb,h14_86];rfl)
   have h5:=hb;refine R0 ?_;refine aJ (b:=_) rfl (fun hb=>?_) (fun hb=>?_)
   ·
    refine aC fun K hK=>Rg ?_;iterate 4 refine S0 ?_
    refine aG 101 rfl (fun h16_101=>?_) (fun h16_101=>?_)
    ·
     have F:=h16_101;iterate 5 refine SF ?_
     refine aG 105 rfl (fun h16_105=>?_) (fun h16_105=>?_)
     ·
      have F:=aI h16_101 h16_105;iterate 5 refine SF ?_
      refine T2 (hK _ _ _ ?_);clear hK K;refine aH (RT Tryz.results133 ?_);exact aK [] (.bool _) rfl (by rw[yN hb,h16_101,h16_105];rfl)
     have F:=aI h16_101 h16_105;iterate 5 refine SF ?_
     refine T2 (hK _ _ _ ?_);clear hK K;refine aH (RT Tryz.results133 ?_);exact aK [] (.bool _) rfl (by rw[yN hb,h16_101,h16_105];rfl)
    have F:=h16_101;iterate 10 refine SF ?_
    refine T2 (hK _ _ _ ?_);clear hK K;refine aH (RT Tryz.results133 ?_);exact aK [] (.bool _) rfl (by rw[yN hb,h16_101];rfl)
   refine aN ?_;refine T0 (hK _ _ _ ?_);clear hK K;refine R0 ?_;refine aH (RT Tryz.results133 ?_);exact aK [] (.bool false) rfl (by rw[bD4 h1 (by simpa using h2) (by simpa using h3) (by simpa using h4) (by simpa using h5) (by simpa using hb)])
  refine R0 ?_;refine aJ (b:=_) rfl (fun hb=>?_) (fun hb=>?_)
  · refine aN (T3 ?_);exact key (q.k==1) _ _ _ (by rw[hb];rfl) (fF)
  have h1:=hb;refine R0 ?_;refine aJ (b:=_) rfl (fun hb=>?_) (fun hb=>?_)
  · refine aN (T3 ?_);exact key (q.k==3) _ _ _ (by rw[h1,hb];rfl) (fF)
  have h1':=hb;refine aD (by kernel_rfl) ?_;simp only[↓sP,sA,tyS,simprocAttr];exact key (q.k==5) _ _ _ (by rw[h1,h1'];rfl) (fF)
 refine Rg ?_;iterate 4 refine S0 ?_
 refine aG 6 rfl (fun h1_6=>?_) (fun h1_6=>?_)
 ·
  have F:=h1_6;iterate 5 refine SF ?_
  refine aG 10 rfl (fun h1_10=>?_) (fun h1_10=>?_)
  · simp only[h1_10];refine T4 ?_;exact key0 true _ _ _ (by simp only[inB,h1_6,h1_10,Bool.true_and,Bool.false_and]) (fF)
  simp only[h1_10];refine T4 ?_;exact key0 false _ _ _ (by simp only[inB,h1_6,h1_10,Bool.true_and,Bool.false_and]) (fF)
 have F:=h1_6;iterate 5 refine SF ?_
 refine T4 ?_;exact key0 false _ _ _ (by simp only[inB,h1_6,Bool.true_and,Bool.false_and]) (fF)
theorem bY0 (n:Nd)(hn:n.q.t.length<2^63):cF Tryz.prog 106 [n.cv] (fun v=>v= .bool (oC n)):=by
 refine FW Tryz.func106 ?_;refine R0 ?_;refine aC fun K hK=>Rg ?_;have F:=@aI3;iterate 5 refine SF ?_
 refine T2 (hK _ _ _ ?_);clear hK K;refine aC fun K hK=>?_;refine R0 ?_;refine aO ?_;refine R0 ?_;refine aJ (b:=_) rfl (fun hb=>?_) (fun hb=>?_)
 ·
  refine aC fun K hK=>Rg ?_;iterate 4 refine S0 ?_
  refine aG 14 rfl (fun h4_14=>?_) (fun h4_14=>?_)
  ·
   have F:=h4_14;iterate 5 refine SF ?_
   refine aG 18 rfl (fun h4_18=>?_) (fun h4_18=>?_)
   ·
    have F:=aI h4_14 h4_18;iterate 2 refine SF ?_
    refine aE (g:=some (20,true)) rfl rfl fun K' hK'=>T6 ?_;refine C1 (cG4 n.q hn) ?_;rintro u rfl;refine AX (hK' _ _ ?_);clear hK' K';iterate 2 refine SF ?_
    refine T2 (hK _ _ _ ?_);clear hK K;refine aH (RT Tryz.results106 ?_);exact aK [] (.bool _) rfl (by rw[qP (by simpa using hb),h4_14,h4_18];rfl)
   have F:=aI h4_14 h4_18;iterate 5 refine SF ?_
   refine T2 (hK _ _ _ ?_);clear hK K;refine aH (RT Tryz.results106 ?_);exact aK [] (.bool _) rfl (by rw[qP (by simpa using hb),h4_14,h4_18];rfl)
  have F:=h4_14;iterate 10 refine SF ?_
  refine T2 (hK _ _ _ ?_);clear hK K;refine aH (RT Tryz.results106 ?_);exact aK [] (.bool _) rfl (by rw[qP (by simpa using hb),h4_14];rfl)
 have h1:n.k≠1:=by simpa using hb
 refine aC fun K hK=>?_;have key2: ∀(b:Bool) fr ob nx,b=(n.k==2||n.k==3)→Fits 0 fr ob (fin [(1,.ptr 0 0),(3,.c (.bool (fS n.q rq0))),(9,.c (.int .i64 n.k)),(25,.c (.bool b))]) (fob [(0,.box 89 (.c n.cv))]) 300→K fr ob nx:=by
  rintro b fr ob nx rfl hf;refine hK _ _ _ (bO hf ?_);clear hf hK K;refine aJ (b:=_) rfl (fun hb=>?_) (fun hb=>?_)
  ·
   refine aC fun K hK=>Rg ?_;iterate 4 refine S0 ?_
   refine aG 30 rfl (fun h7_30=>?_) (fun h7_30=>?_)
   ·
    have F:=h7_30;iterate 5 refine SF ?_
    refine aG 34 rfl (fun h7_34=>?_) (fun h7_34=>?_)
    ·
     have F:=aI h7_30 h7_34;iterate 3 refine SF ?_
     refine T2 (hK _ _ _ ?_);clear hK K;refine aH (RT Tryz.results106 ?_);exact aK [] (.bool _) rfl (by rw[tX hb,h7_30,h7_34];rfl)
    have F:=aI h7_30 h7_34;iterate 3 refine SF ?_
    refine T2 (hK _ _ _ ?_);clear hK K;refine aH (RT Tryz.results106 ?_);exact aK [] (.bool _) rfl (by rw[tX hb,h7_30,h7_34];rfl)
   have F:=h7_30;iterate 8 refine SF ?_
   refine T2 (hK _ _ _ ?_);clear hK K;refine aH (RT Tryz.results106 ?_);exact aK [] (.bool _) rfl (by rw[tX hb,h7_30];rfl)
  have h2:=hb;refine R0 ?_;refine aJ (b:=_) rfl (fun hb=>?_) (fun hb=>?_)
  ·
   refine aC fun K hK=>Rg ?_;iterate 4 refine S0 ?_
   refine aG 43 rfl (fun h9_43=>?_) (fun h9_43=>?_)
   ·
    have F:=h9_43;iterate 5 refine SF ?_
    refine aG 47 rfl (fun h9_47=>?_) (fun h9_47=>?_)
    ·
     have F:=aI h9_43 h9_47;iterate 7 refine SF ?_
     refine aG 54 rfl (fun h9_54=>?_) (fun h9_54=>?_)
     ·
      have F:=aI h9_43 (aI h9_47 h9_54);iterate 3 refine SF ?_
      refine T2 (hK _ _ _ ?_);clear hK K;refine aH (RT Tryz.results106 ?_);exact aK [] (.bool _) rfl (by rw[mQ (by simpa using hb),h9_43,h9_47,h9_54];rfl)
     have F:=aI h9_43 (aI h9_47 h9_54);iterate 3 refine SF ?_
     refine T2 (hK _ _ _ ?_);clear hK K;refine aH (RT Tryz.results106 ?_);exact aK [] (.bool _) rfl (by rw[mQ (by simpa using hb),h9_43,h9_47,h9_54];rfl)
    have F:=aI h9_43 h9_47;iterate 10 refine SF ?_
    refine T2 (hK _ _ _ ?_);clear hK K;refine aH (RT Tryz.results106 ?_);exact aK [] (.bool _) rfl (by rw[mQ (by simpa using hb),h9_43,h9_47];rfl)
   have F:=h9_43;iterate 15 refine SF ?_
   refine T2 (hK _ _ _ ?_);clear hK K;refine aH (RT Tryz.results106 ?_);exact aK [] (.bool _) rfl (by rw[mQ (by simpa using hb),h9_43];rfl)
  refine aN ?_;refine T0 (hK _ _ _ ?_);clear hK K;refine R0 ?_;refine aH (RT Tryz.results106 ?_);exact aK [] (.bool _) rfl (by rw[bX6 h1 h2 (by simpa using hb)])
 refine R0 ?_;refine aJ (b:=_) rfl (fun hb=>?_) (fun hb=>?_)
 · refine aN (T3 ?_);exact key2 (n.k==2) _ _ _ (by rw[hb];rfl) (aM (by omega) (by simp[aW,fin_at,finA_at,upd_at,HV.men,HV.menL,HV.norm,HV.toC,HV.toCL,rq0]) (by simp[aX,fob_at,upd_at,none0_at,bI,HO.men,HV.men,HV.menL,HV.norm,HV.toC,HV.toCL,rq0]))
 have h2:=hb;refine aD (by kernel_rfl) ?_;simp only[↓sP,sA,tyS,simprocAttr];exact key2 (n.k==3) _ _ _ (by rw[hb];rfl) (aM (by omega) (by simp[aW,fin_at,finA_at,upd_at,HV.men,HV.menL,HV.norm,HV.toC,HV.toCL,rq0]) (by simp[aX,fob_at,upd_at,none0_at,bI,HO.men,HV.men,HV.menL,HV.norm,HV.toC,HV.toCL,rq0]))
theorem aQ5 (l:List Nd)(hn: ∀n∈l,n.q.t.length<2^63):cF Tryz.prog 76 [.slc (l.map Nd.cv)] (fun v=>v= .bool (dN l)):=by
 refine FW Tryz.func76 ?_;refine R0 ?_;refine aC fun K hK=>?_;refine aC fun K hK=>Rg ?_;iterate 4 refine S0 ?_
 refine aG 8 rfl (fun h1_8=>?_) (fun h1_8=>?_)
 ·
  have F:=h1_8;iterate 4 refine SF ?_
  refine T2 (hK _ _ _ ?_);clear hK K;refine CT rfl ?_;refine R0 ?_;refine aH (RT Tryz.results76 ?_);exact aK [] (.bool false) rfl (by rw[kU (.inl (by simp only[decide_eq_true_eq]at h1_8;omega))])
 have F:=h1_8;iterate 4 refine SF ?_
 refine aG 12 rfl (fun h1_12=>?_) (fun h1_12=>?_)
 · simp only[h1_12];refine T2 (hK _ _ _ ?_);clear hK K;refine CT rfl ?_;refine R0 ?_;refine aH (RT Tryz.results76 ?_);exact aK [] (.bool false) rfl (by rw[kU (.inr (by simp only[decide_eq_true_eq]at h1_12;omega))])
 simp only[h1_12];refine T2 (hK _ _ _ ?_);clear hK K;refine CF rfl ?_;refine aN ?_;refine T0 (hK _ _ _ ?_);clear hK K;have hl1:1≤l.length:=by simp only[decide_eq_false_iff_not]at h1_8;omega
 have hl2:l.length≤60:=by simp only[decide_eq_false_iff_not]at h1_12;omega
 clear h1_8 h1_12;refine R0 ?_;refine aC fun K hK=>?_;refine R0 ?_;refine aO ?_;refine bP (α:={y:Nat×Int×Int//ScSt l y.1 y.2.1 y.2.2}) (fun y=>(fin [(0,.c (.slc (l.map Nd.cv))),(3,.c (.int .i64 y.1.2.1)),(4,.c (.int .i64 y.1.2.2)),(5,.c (.int .i64 y.1.1))],fob [])) 200 (fun y=>l.length-y.1.1) ⟨(0,1,0),ScSt.init l⟩ (fF) ?_;rintro⟨⟨i,m,v⟩,hst⟩;simp only at hst;have hi:=hst.le;have hm0:=hst.m0;have hm1:=hst.m1;have hv0:=hst.v0;have hv1:=hst.v1;refine aC fun K hK=>?_;refine aC fun K hK=>Rg ?_;iterate 4 refine S0 ?_
 refine T2 (hK _ _ _ ?_);clear hK K;refine aJ (b:=decide ((i:Int)<l.length)) rfl (fun hb=>?_) (fun hb=>?_)
 ·
  have hlt:i<l.length:=by simpa using hb
  clear hb;refine aN ?_;refine T0 (hK _ _ _ ?_);clear hK K;refine aC fun K hK=>?_;refine aO ?_;refine aC fun K hK=>?_;refine aC fun K hK=>Rg ?_;have F:=aI @Int.natCast_nonneg (aI @Int.ofNat_lt (aI hlt (nM hlt)));iterate 3 refine SF ?_
  refine aG 21 rfl (fun h7_21=>?_) (fun h7_21=>?_)
  ·
   have F:=aI @Int.natCast_nonneg (aI @Int.ofNat_lt (aI hlt (aI (nM hlt) h7_21)));iterate 15 refine SF ?_
   refine T2 (hK _ _ _ ?_);clear hK K;refine CT rfl ?_;refine R0 ?_;refine aH (RT Tryz.results76 ?_);exact aK [] (.bool false) rfl (by rw[hst.stop hlt (.inl (by simpa using h7_21))])
  have F:=aI @Int.natCast_nonneg (aI @Int.ofNat_lt (aI hlt (aI (nM hlt) h7_21)));iterate 4 refine SF ?_
  refine aE (g:=some (22,false)) rfl rfl fun K' hK'=>T6 ?_;refine C1 (bY0 l[i] (hn _ (List.getElem_mem hlt))) ?_;rintro u rfl;refine AX (hK' _ _ ?_);clear hK' K';iterate 3 refine SF ?_
  refine aG 27 rfl (fun h7_27=>?_) (fun h7_27=>?_)
  ·
   have F:=aI @Int.natCast_nonneg (aI @Int.ofNat_lt (aI hlt (aI (nM hlt) (aI h7_21 h7_27))));iterate 7 refine SF ?_
   refine aG 36 rfl (fun h7_36=>?_) (fun h7_36=>?_)
   · simp only[h7_36];refine T2 (hK _ _ _ ?_);clear hK K;refine CT rfl ?_;refine R0 ?_;refine aH (RT Tryz.results76 ?_);exact aK [] (.bool false) rfl (by rw[hst.stop hlt (.inr (by rw[aI2,h7_27,h7_36];rfl))])
   simp only[h7_36];refine T2 (hK _ _ _ ?_);clear hK K;refine CF rfl ?_;refine aN ?_;refine T0 (hK _ _ _ ?_);clear hK K;have hnb:cW l[i]=true:=by rw[aI2,h7_27,h7_36];rfl
   have hm:m≠0:=by simpa using h7_21
   obtain⟨c1,c2,c3,c4⟩:=eL hnb;have hnx:=hst.next hlt hm hnb;clear h7_21 h7_27 h7_36;refine aC fun K hK=>Rg ?_;iterate 9 refine S0 ?_ (e:=fun _ h_=>by simp only[sH,↓sP,sA,tyS,simprocAttr,Int.natCast_nonneg,Int.ofNat_lt,hlt,aU hlt,cD (l[i].c-1) (by omega),cD (m+(l[i].c-1)) (by omega)];exact AX h_)
   refine T2 (hK _ _ _ ?_);clear hK K;refine aC fun K hK=>Rg ?_;have F:=aI @Int.natCast_nonneg (aI @Int.ofNat_lt (aI hlt (nM hlt)));iterate 6 refine SF ?_
   refine T2 (hK _ _ _ ?_);clear hK K;refine aJ (b:=_) rfl (fun hb=>?_) (fun hb=>?_)
   · refine aD (by kernel_rfl) ?_;simp only[↓sP,sA,tyS,simprocAttr,cD (v+1) (by omega)];refine AX (hK _ _ _ ?_);clear hK K;refine aD (by kernel_rfl) ?_;simp only[↓sP,sA,tyS,simprocAttr,cD ((i:Int)+1) (by omega)];rw[if_pos (by simpa using hb)]at hnx;refine⟨⟨(i+1,_,_),hnx⟩,fF,?_⟩;show l.length-(i+1)<l.length-i;omega
   refine aN ?_;refine T0 (hK _ _ _ ?_);clear hK K;refine aD (by kernel_rfl) ?_;simp only[↓sP,sA,tyS,simprocAttr,cD ((i:Int)+1) (by omega)];rw[if_neg (by simpa using hb)]at hnx;refine⟨⟨(i+1,_,_),hnx⟩,fF,?_⟩;show l.length-(i+1)<l.length-i;omega
  have F:=aI @Int.natCast_nonneg (aI @Int.ofNat_lt (aI hlt (aI (nM hlt) (aI h7_21 h7_27))));iterate 7 refine SF ?_
  refine T2 (hK _ _ _ ?_);clear hK K;refine CT rfl ?_;refine R0 ?_;refine aH (RT Tryz.results76 ?_);exact aK [] (.bool false) rfl (by rw[hst.stop hlt (.inr (by rw[aI2,h7_27];rfl))])
 refine bB (T3 ?_);clear hK K;refine AX (hK _ _ _ ?_);clear hK K;have hei:i=l.length:=by simp only[decide_eq_false_iff_not]at hb;omega
 subst hei;have hf:=hst.fin hl1 hl2;clear hb;refine aC fun K hK=>Rg ?_;iterate 3 refine S0 ?_
 refine aG 55 rfl (fun h12_55=>?_) (fun h12_55=>?_)
 ·
  have F:=h12_55;iterate 4 refine SF ?_
  refine T2 (hK _ _ _ ?_);clear hK K;refine aH (RT Tryz.results76 ?_);exact aK [] (.bool _) rfl (by rw[hf,h12_55,Bool.true_and])
 have F:=h12_55;iterate 4 refine SF ?_
 refine T2 (hK _ _ _ ?_);clear hK K;refine aH (RT Tryz.results76 ?_);exact aK [] (.bool false) rfl (by rw[hf,h12_55,Bool.false_and])
def iC (n:Nat):CV:= .int .i64 n
theorem cM (l:List Nat):CV.denilL (l.map iC)=l.map iC:=bY (fun _=>rfl) l
theorem bY1 (l:List Nd)(ht:IsTree l)(i:Nat)(hi:i<l.length):cF Tryz.prog 105 [.slc (l.map Nd.cv),.int .i64 i] (fun v=>v= .int .i64 (aft l i:Nat)):=by
 have hl:=ht.len;refine FW Tryz.func105 ?_;refine R0 ?_;refine aC fun K hK=>?_;refine R0 ?_;refine aO ?_;refine bP (α:={y:Nat×Nat//AftSt l i y.1 y.2∧y.1≤1+60*y.2}) (fun y=>(fin [(0,.c (.slc (l.map Nd.cv))),(1,.c (.int .i64 y.1.2)),(5,.c (.int .i64 y.1.1))],fob [])) 100 (fun y=>l.length-y.1.2) ⟨(1,i),⟨Nat.le_of_lt hi,rfl⟩,by omega⟩ (fF) ?_;rintro⟨⟨m,p⟩,hst,hm⟩;simp only at hst hm;have hp:=hst.1;refine aC fun K hK=>?_;refine R0 ?_;refine aJ (b:=decide ((0:Int)<(m:Int))) rfl (fun hb=>?_) (fun hb=>?_)
 ·
  have hm1:0<m:=by simpa using hb
  have hpl:=hst.lt ht hi hm1;obtain⟨c1,c2,_,_⟩:=eL (ht.node _ (List.getElem_mem hpl));obtain⟨m',rfl⟩: ∃m',m=m'+1:=⟨m-1,by omega⟩;have hnx:=hst.next hpl;have hw1:IntKind.i64.wrap (((m'+1:Nat):Int)+(l[p].c-1))=((m'+l[p].c.toNat:Nat):Int):=by rw[cD _ (by omega)];omega
  have hw2:IntKind.i64.wrap ((p:Int)+1)=((p+1:Nat):Int):=by rw[cD _ (by omega)];rfl
  clear hb;refine aN ?_;refine T0 (hK _ _ _ ?_);clear hK K;refine aC fun K hK=>?_;refine aO ?_;refine Rg ?_;iterate 9 refine S0 ?_ (e:=fun _ h_=>by simp only[sH,↓sP,sA,tyS,simprocAttr,Int.natCast_nonneg,Int.ofNat_lt,hpl,aU hpl,cD (l[p].c-1) (by omega),hw1];exact AX h_)
  refine T2 (hK _ _ _ ?_);clear hK K;refine aD (by kernel_rfl) ?_;refine TQ hw2 ?_;refine⟨⟨(m'+l[p].c.toNat,p+1),hnx,by simp only;omega⟩,fF,?_⟩;show l.length-(p+1)<l.length-p;omega
 refine bB (T3 ?_);clear hK K;refine AX (hK _ _ _ ?_);clear hK K;refine R0 ?_;refine aH (RT Tryz.results105 ?_);have hm0:m=0:=by simpa using hb
 subst hm0;exact aK [] (.int .i64 p) rfl (by rw[hst.fin])
theorem aQ6 (l:List Nd)(hn: ∀n∈l,n.q.t.length<2^63)(i:Int):cF Tryz.prog 75 [.slc (l.map Nd.cv),.int .i64 i] (fun v=>v= .slc ((nR l i).map iC)):=by
 refine FW Tryz.func75 ?_;refine R0 ?_;refine aC fun K hK=>?_;refine aC fun K hK=>Rg ?_;refine S0 ?_;refine HS rfl rfl fun K' hK'=>T5 ?_;refine C1 (bD5 l hn) ?_;rintro u rfl;refine AX (hK' _ _ ?_);clear hK' K';iterate 2 refine S0 ?_
 refine aG 8 rfl (fun h1_8=>?_) (fun h1_8=>?_)
 ·
  have F:=h1_8;iterate 4 refine SF ?_
  refine aG 12 rfl (fun h1_12=>?_) (fun h1_12=>?_)
  ·
   have F:=aI h1_8 h1_12;iterate 5 refine SF ?_
   refine T2 (hK _ _ _ ?_);clear hK K;refine CT rfl ?_;refine R0 ?_;refine aH (RT Tryz.results75 ?_);exact aK [] (.slc []) rfl (by rw[iR (.inr (.inl (by simpa using h1_12)))];rfl)
  have F:=aI h1_8 h1_12;iterate 5 refine SF ?_
  refine aG 18 rfl (fun h1_18=>?_) (fun h1_18=>?_)
  · simp only[h1_18];refine T2 (hK _ _ _ ?_);clear hK K;refine CT rfl ?_;refine R0 ?_;refine aH (RT Tryz.results75 ?_);exact aK [] (.slc []) rfl (by rw[iR (.inr (.inr (by simpa using h1_18)))];rfl)
  simp only[h1_18];refine T2 (hK _ _ _ ?_);clear hK K;refine CF rfl ?_;refine aN ?_;refine T0 (hK _ _ _ ?_);clear hK K;obtain⟨j,rfl⟩: ∃j:Nat,i=j:=⟨i.toNat,by simp at h1_12;omega⟩;have hj:j<l.length:=by simp at h1_18;omega
  have ht:=eM h1_8;have hcv:=oV h1_8 hj;have hl:=ht.len;obtain⟨c1,c2,_,_⟩:=eL (ht.node _ (List.getElem_mem hj));have hw2:IntKind.i64.wrap ((j:Int)+1)=((j+1:Nat):Int):=by rw[cD _ (by omega)];rfl
  clear h1_8 h1_12 h1_18;refine R0 ?_;refine aC fun K hK=>?_;have F:=hw2;refine RF ?_;refine aO ?_;refine iZ 5 0 3 1 rfl rfl rfl rfl ?_;refine bP (α:={k:Nat//k≤l[j].c.toNat}) (fun k=>(fin [(0,.c (.slc (l.map Nd.cv))),(1,.c (.int .i64 j)),(5,.own 72 k.1),(6,.c (.int .i64 (cA l k.1 (j+1):Nat)))],fob [(72,.row 3 1 ((cV l k.1 (j+1)).map iC))])) 200 (fun k=>l[j].c.toNat-k.1) ⟨0,by omega⟩ (aM (by omega) (by simp[aW,fin_at,finA_at,upd_at,HV.men,HV.menL,HV.norm,HV.toC,HV.toCL,cV,cA]) (by simp[aX,fob_at,upd_at,none0_at,bI,HO.men,HV.men,HV.menL,HV.norm,HV.toC,HV.toCL,cV,cA])) ?_;rintro⟨k,hk⟩;have hkl:=iL l k (j+1);refine aC fun K hK=>?_;refine aC fun K hK=>Rg ?_;have F:=aI @Int.natCast_nonneg (aI @Int.ofNat_lt (aI hj (aI (nM hj) hkl)));iterate 8 refine SF ?_
  refine T2 (hK _ _ _ ?_);clear hK K;refine aJ (b:=decide ((k:Int)<l[j].c)) rfl (fun hb=>?_) (fun hb=>?_)
  ·
   have hkc:k<l[j].c.toNat:=by simp only[decide_eq_true_eq]at hb;omega
   have hkp:=gK ht hj hkc;have e:(cV l (k+1) (j+1)).map iC=(cV l k (j+1)).map iC++[CV.int .i64 (cA l k (j+1):Nat)]:=by rw[fT,List.map_append];rfl
   refine aN ?_;refine T0 (hK _ _ _ ?_);clear hK K;refine aC fun K hK=>?_;refine aO ?_;refine Rg ?_;have F:=hkl;iterate 5 refine SF ?_
   refine T2 (hK _ _ _ ?_);clear hK K;refine Rg ?_;iterate 2 refine S0 ?_
   refine HS rfl rfl fun K' hK'=>T5 ?_;refine C2 (bY1 l ht _ hkp) ?_;rintro u rfl;refine AX (hK' _ _ ?_);clear hK' K';refine S0 ?_;refine T4 ?_;refine⟨⟨k+1,hkc⟩,aM (by omega) (by simp[aW,fin_at,finA_at,upd_at,HV.men,HV.menL,HV.norm,HV.toC,HV.toCL,e,hkl,cI]) (by simp[aX,fob_at,upd_at,none0_at,bI,HO.men,HV.men,HV.menL,HV.norm,HV.toC,HV.toCL,e,hkl,cI]),?_⟩;show l[j].c.toNat-(k+1)<l[j].c.toNat-k;omega
  refine bB (T3 ?_);clear hK K;refine AX (hK _ _ _ ?_);clear hK K;refine R0 ?_;refine aH (RT Tryz.results75 ?_);have hkc:k=l[j].c.toNat:=by simp only[decide_eq_false_iff_not]at hb;omega
  subst hkc;exact aK [72] (.slc ((cV l l[j].c.toNat (j+1)).map iC)) (by simp[HV.close,fob_at,hkl,HV.norm,HV.toC,cM,CV.denil]) (by rw[hcv])
 have F:=h1_8;iterate 9 refine SF ?_
 refine T2 (hK _ _ _ ?_);clear hK K;refine CT rfl ?_;refine R0 ?_;refine aH (RT Tryz.results75 ?_);exact aK [] (.slc []) rfl (by rw[iR (.inl h1_8)];rfl)
theorem tY (l:List Nd)(hn: ∀n∈l,n.q.t.length<2^63):cF Tryz.prog 29 [.slc (l.map Nd.cv)] (fun v=>v= .slc ((dE l).map iC)):=by
 refine FW Tryz.func29 ?_;refine R0 ?_;refine aC fun K hK=>?_;refine aC fun K hK=>Rg ?_;refine S0 ?_;refine HS rfl rfl fun K' hK'=>T5 ?_;refine C1 (bD5 l hn) ?_;rintro u rfl;refine AX (hK' _ _ ?_);clear hK' K';refine S0 ?_;refine T2 (hK _ _ _ ?_);clear hK K;refine aJ (b:=!dN l) rfl (fun hb=>?_) (fun hb=>?_)
 · refine R0 ?_;refine aH (RT Tryz.results29 ?_);exact aK [] (.slc []) rfl (by rw[uZ (by simpa using hb)];rfl)
 have h8:dN l=true:=by simpa using hb
 have ht:=eM h8;have hlv:=kH h8;have hl:=ht.len;clear hb;refine aN ?_;refine T0 (hK _ _ _ ?_);clear hK K;refine R0 ?_;refine aC fun K hK=>?_;refine R0 ?_;refine aO ?_;refine iZ 3 0 3 1 rfl rfl rfl rfl ?_;refine bP (α:={i:Nat//i≤l.length}) (fun i=>(fin [(3,.own 32 (dZ 0 (l.take i.1)).length),(9,.c (.slc (l.map Nd.cv))),(10,.c (.int .i64 l.length)),(11,.c (.int .i64 i.1))],fob [(32,.row 3 1 ((dZ 0 (l.take i.1)).map iC))])) 200 (fun i=>l.length-i.1) ⟨0,by omega⟩ (aM (by omega) (by simp[aW,fin_at,finA_at,upd_at,HV.men,HV.menL,HV.norm,HV.toC,HV.toCL,dZ]) (by simp[aX,fob_at,upd_at,none0_at,bI,HO.men,HV.men,HV.menL,HV.norm,HV.toC,HV.toCL,dZ])) ?_;rintro⟨i,hi⟩;have hfl:(dZ 0 (l.take i)).length≤i:=by rw[fZ];have:=bA1 (l.take i);simp at this;omega
 refine R0 ?_;refine aC fun K hK=>?_;refine aJ (b:=decide ((i:Int)<l.length)) rfl (fun hb=>?_) (fun hb=>?_)
 ·
  have hlt:i<l.length:=by simpa using hb
  have e:=aU6 hlt;clear hb;refine aN ?_;refine T0 (hK _ _ _ ?_);clear hK K;refine aC fun K hK=>?_;refine aO ?_;refine aC fun K hK=>Rg ?_;have F:=aI @Int.natCast_nonneg (aI @Int.ofNat_lt (aI hlt (nM hlt)));iterate 6 refine SF ?_
  refine T2 (hK _ _ _ ?_);clear hK K;refine R0 ?_;refine aJ (b:=_) rfl (fun hb=>?_) (fun hb=>?_)
  ·
   rw[if_pos (by simpa using hb)]at e;refine Rg ?_;iterate 5 refine S0 ?_
   refine T2 (hK _ _ _ ?_);clear hK K;refine aD (by kernel_rfl) ?_;simp only[↓sP,sA,tyS,simprocAttr,cD ((i:Int)+1) (by omega)];refine⟨⟨i+1,hlt⟩,aM (by omega) (by simp[aW,fin_at,finA_at,upd_at,HV.men,HV.menL,HV.norm,HV.toC,HV.toCL,e,iC]) (by simp[aX,fob_at,upd_at,none0_at,bI,HO.men,HV.men,HV.menL,HV.norm,HV.toC,HV.toCL,e,iC]),?_⟩;show l.length-(i+1)<l.length-i;omega
  rw[if_neg (by simpa using hb)]at e;refine aN ?_;refine T0 (hK _ _ _ ?_);clear hK K;refine aD (by kernel_rfl) ?_;simp only[↓sP,sA,tyS,simprocAttr,cD ((i:Int)+1) (by omega)];refine⟨⟨i+1,hlt⟩,aM (by omega) (by simp[aW,fin_at,finA_at,upd_at,HV.men,HV.menL,HV.norm,HV.toC,HV.toCL,e]) (by simp[aX,fob_at,upd_at,none0_at,bI,HO.men,HV.men,HV.menL,HV.norm,HV.toC,HV.toCL,e]),?_⟩;show l.length-(i+1)<l.length-i;omega
 refine bB (T3 ?_);clear hK K;refine AX (hK _ _ _ ?_);clear hK K;refine R0 ?_;refine aH (RT Tryz.results29 ?_);have hei:i=l.length:=by simp only[decide_eq_false_iff_not]at hb;omega
 subst hei;rw[List.take_length];exact aK [32] (.slc ((dZ 0 l).map iC)) (by simp[HV.close,fob_at,HV.norm,HV.toC,cM,CV.denil]) (by rw[hlv])
end Go.Proofs.YthedbjfipmkpiaaGreatDoor
