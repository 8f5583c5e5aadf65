/- Part of a proof: walks of functions of the program, by contracts, and the rules they use. By an AI agent. -/
import Derived.Test.YthedbjfipmkpiaaGreatDoorPl31g
import Derived.Test.YthedbjfipmkpiaaGreatDoorPl31h
import Derived.Test.YthedbjfipmkpiaaGreatDoorHdU6
import Derived.Test.YthedbjfipmkpiaaGreatDoorHdW9
import Derived.Test.YthedbjfipmkpiaaGreatDoorHdSb
import Derived.Test.YthedbjfipmkpiaaGreatDoorHdV9
import Derived.Test.YthedbjfipmkpiaaGreatDoorPl31
import Derived.Test.YthedbjfipmkpiaaGreatDoorPl11c
import Derived.Test.YthedbjfipmkpiaaGreatDoorHdUp
set_option linter.unusedSimpArgs false
set_option linter.unusedVariables false
set_option linter.defProp false
namespace Go.Pl
open Go Go.Hl
abbrev R40 (n:Int):Prop:=0≤n∧n≤1099511627776
structure LnR (x:Ln):Prop where
 k:1≤x.k∧x.k≤5
 n:R40 x.n
 f: ∀n∈x.f,R40 n
 fl:x.f.length≤120
theorem bG0 : ∀{l:List aL} {ns:List Int},fG l=some ns→ns.length=l.length∧ ∀n∈ns,R40 n
 |[],ns,h=>by
  obtain rfl:=Option.some.inj (show some ([]:List Int)=some ns from h);simp
 |w::l,ns,h=>by
  unfold fG at h;rw[List.mapM_cons]at h;cases hw:dQ w with
  |none=>rw[hw]at h;cases h
  |some n=>
   cases hl:l.mapM dQ with
   |none=>rw[hw,hl]at h;cases h
   |some m=>
    rw[hw,hl]at h;obtain rfl:=Option.some.inj (show some (n::m)=some ns from h);have ih:=bG0 (l:=l) (ns:=m) hl;refine⟨by simp[ih.1],fun x hx=>?_⟩;rcases List.mem_cons.1 hx with rfl|hx
    · exact⟨(iX hw).1,by have:=(iX hw).2;omega⟩
    · exact ih.2 x hx
variable {w:List aL}
theorem cI4 {x:Ln}(hw:w.length≤120)(h:fM w=some x):LnR x:=by
 unfold fM at h;split at h
 ·
  rename_i n f hs;have hr:=bG0 hs;cases hk:lX (wd w 0)with
  |none=>rw[hk]at h;cases h
  |some k=>
   rw[hk]at h;simp only[Option.bind_some]at h;split at h
   · cases h
   · obtain rfl:=Option.some.inj h;have hk2:=yG.1 hk;refine⟨⟨hk2.1,hk2.2.1⟩,hr.2 n (by simp),fun m hm=>hr.2 m (by simp[hm]),?_⟩;have h1:=hr.1;simp only[List.length_cons,List.length_drop]at h1⊢;omega
 · cases h
theorem cI5 {ls l:List Ln}(hw:w.length≤120)(h:eV ls w=some l)(hl: ∀x∈ls,LnR x): ∀x∈l,LnR x:=by
 unfold eV at h;split at h
 ·
  unfold bM5 at h;cases hx:ls.getLast? with
  |none=>rw[hx]at h;cases h
  |some x=>
   rw[hx]at h;have hm:=List.mem_of_getLast? hx;dsimp only at h;split at h
   ·
    cases hd:gL (wd w 1)with
    |none=>rw[hd]at h;cases h
    |some d=>
     rw[hd]at h;obtain rfl:=Option.some.inj h;intro y hy;rcases List.mem_append.1 hy with hy|hy
     · exact hl y (List.dropLast_subset _ hy)
     · rw[List.mem_singleton.1 hy];have:=hl x hm;exact⟨this.k,this.n,this.f,this.fl⟩
   · cases h
 ·
  cases hx:fM w with
  |none=>rw[hx]at h;cases h
  |some x=>
   rw[hx]at h;obtain rfl:=Option.some.inj h;intro y hy;rcases List.mem_append.1 hy with hy|hy
   · exact hl y hy
   · rw[List.mem_singleton.1 hy];exact cI4 hw hx
theorem bG1 {ws:List (List aL)}(hw: ∀w∈ws,w.length≤120): ∀{i:Nat} {l:List Ln},i≤ws.length→iO (ws.take i)=some l→ ∀x∈l,LnR x
 |0,l,_,h=>by
  rw[List.take_zero,aF1]at h;obtain rfl:=Option.some.inj h;simp
 |i+1,l,hi,h=>by
  cases hp:iO (ws.take i)with
  |none=>
   have e:ws.take (i+1)=ws.take i++[ws[i]]:=List.take_succ_eq_append_getElem (by omega);rw[e,oZ,hp]at h;cases h
  |some m=>
   have hm:=bG1 hw (i:=i) (by omega) hp;rw[kK (by omega) hp]at h;exact cI5 (hw _ (List.getElem_mem _)) h hm
structure DvR (d:Dv):Prop where
 t:R40 d.t
 r:R40 d.r
 l: ∀x∈d.l,LnR x∧x.d.length≤1000
 ll:d.l.length≤1000
variable {d:Dv}
theorem cI6 {ls:List (List aL)}(hw: ∀l∈ls,wOk l)(hn:ls.length≤1000)(h:gT ls=some d):DvR d:=by
 rw[qG]at h;cases hh:iF ls with
 |none=>rw[hh]at h;cases h
 |some e=>
  rw[hh]at h;simp only[Option.bind_some]at h;cases hf:iO (ls.drop 2)with
  |none=>rw[hf]at h;cases h
  |some l=>
   rw[hf]at h;obtain rfl:=Option.some.inj h;have hl:(ls.drop 2).length≤1000:=by rw[List.length_drop];omega
   have hf':iO ((ls.drop 2).take (ls.drop 2).length)=some l:=by rw[List.take_length];exact hf
   have h1:=uB (Nat.le_refl _) hf';have h2:=bG1 (fun w h=>(hw w (List.drop_subset _ _ h)).2.1) (Nat.le_refl _) hf';unfold iF at hh;split at hh
   · cases hh
   ·
    split at hh
    · rename_i a p v t r _ _ _ ht hr;obtain rfl:=Option.some.inj hh;exact⟨⟨(iX ht).1,by have:=(iX ht).2;omega⟩,⟨(iX hr).1,by have:=(iX hr).2;omega⟩,fun x hx=>⟨h2 x hx,by have:=h1.2 x hx;omega⟩,by show l.length≤1000;omega⟩
    · cases hh
theorem DvR.len (h:DvR d):(iA d).length≤2000000:=by
 have h1:=docsL_le (X:=d.l) (c:=1000) fun x hx=>(h.l x hx).2;have h2:=h.ll;have h3:=uD d.l;rw[iA,List.length_append,h3];have:(kW d).length=2:=rfl;omega
end Go.Pl
namespace Go.Proofs.YthedbjfipmkpiaaGreatDoor
open Go Go.Hl Go.Pl
set_option maxRecDepth 10000
set_option maxHeartbeats 16000000
theorem cU2 {d:Dv}(h:DvR d):DvW d:=by
 refine⟨⟨by have:=h.t.1;omega,by have:=h.t.2;omega⟩,⟨by have:=h.r.1;omega,by have:=h.r.2;omega⟩,fun x hx=>?_,by have:=h.len;omega,by have:=h.ll;omega⟩;obtain⟨h1,h2⟩:=h.l x hx;exact⟨⟨by have:=h1.k.1;omega,by have:=h1.k.2;omega⟩,⟨by have:=h1.n.1;omega,by have:=h1.n.2;omega⟩,fun n hn=>⟨by have:=(h1.f n hn).1;omega,by have:=(h1.f n hn).2;omega⟩,by have:=h1.fl;omega,by omega⟩
theorem sO {ob:Ob}{r:HV}{T:nU}{n:Int}{R:CV→CV→Prop}(hr:r= .tup [.c (.agg [.agg [.str [],.str [],zd],.int .i64 0,zd,.int .i64 0,.agg [zd,.str [],.str []],.nils]),.c (.int .i64 n)])(hb:ob 0=some (.tab T))(hR:R dv0.cv (.int .i64 n)):
  iR 1 r ob (fun r ob'=> ∃u v,r= .tup [.c u,.c v]∧ob'=gC T∧R u v):=by
 subst hr;refine fE [] dv0.cv (.int .i64 n) ?_ hb (by simp) hR;simp[HV.close,HV.closeL,CV.denil,CV.denilL,HV.norm,HV.toC,HV.toCL,nQ];rfl
theorem bG2 (b:aL)(hl:b.length<2^40):rP Tryz.prog 27 tabs [.slc (b.map u8)] (fun u v=>u=(ddO b).cv∧v= .int .i64 (ddE b)):=by
 refine bI (args:=[.c (.slc (b.map u8))]) Tryz.func27 rfl (by kernel_rfl) (gF tabs [.slc (b.map u8)]) (Nat.le_of_ble_eq_true rfl) ?_;unfold gC;have hlen:=bW4 (b:=b);have hwo:=cF4 (b:=b);have hdl:CV.denilL ((mP b).map lsC)=(mP b).map lsC:=bZ bY6 _;refine aC fun K hK=>aE (by kernel_rfl) ?_;simp (maxSteps:=4000000) only[↓sP,sA,tyS,simprocAttr];repeat refine AI ?_
 refine hK _ _ _ ?_;clear hK K;refine aC fun K hK=>aE (by kernel_rfl) ?_;simp only[sR,simprocAttr];refine aF (g:=none) rfl rfl fun K' hK'=>?_;simp (maxSteps:=4000000) only[sH,↓sP,sA,tyS,simprocAttr,denilL_u8];repeat refine AI ?_
 refine hK' _ _ ?_;clear hK' K';refine aF (g:=none) rfl rfl fun K' hK'=>?_;simp (maxSteps:=4000000) only[sH,↓sP,sA,tyS,simprocAttr,denilL_u8];refine iU (args:=[_]) (cO9 b hl) ⟨rfl,rfl,rfl,rfl⟩ ?_;rintro u v ⟨rfl,rfl⟩;repeat refine AI ?_
 refine hK' _ _ ?_;clear hK' K';iterate 5
  (refine aF (g:=none) rfl rfl fun K' hK'=>?_;simp only[sH,↓sP,sA,tyS,simprocAttr,denilL_u8];(repeat refine AI ?_);refine hK' _ _ ?_;clear hK' K')
 simp only[sE,↓reduceIte,simprocAttr];repeat refine AI ?_
 refine hK _ _ _ ?_;clear hK K;refine aC fun K hK=>?_;refine aC fun K hK=>aE (by kernel_rfl) ?_;simp (maxSteps:=4000000) only[↓sP,sA,tyS,simprocAttr];repeat refine AI ?_
 refine hK _ _ _ ?_;clear hK K;refine aK (b:=!(kR b==0)) rfl (fun hb=>?_) (fun hb=>?_)
 ·
  have he:kR b≠0:=by simpa using hb
  have e1:ddE b=kR b:=by rw[ddE,if_pos he]
  have e2:ddO b=dv0:=by rw[ddO,tZ,if_neg he];rfl
  clear hb;refine aC fun K hK=>aE (by kernel_rfl) ?_;simp only[sR,simprocAttr];iterate 4
   (refine aF (g:=none) rfl rfl fun K' hK'=>?_;simp only[sH,↓sP,sA,tyS,simprocAttr,dH,dI];(repeat refine AI ?_);refine hK' _ _ ?_;clear hK' K')
  simp only[sE,↓reduceIte,simprocAttr];repeat refine AI ?_
  refine hK _ _ _ ?_;clear hK K;refine aH ?_;simp (maxSteps:=4000000) only[bS,Tryz.results27,bP,bR,bN,↓sP,sA,tyS,simprocAttr];refine sO (n:=kR b) rfl rfl ⟨by rw[e2],by rw[e1]⟩
 refine aM ?_;simp (maxSteps:=4000000) only[↓sP,sA,tyS,simprocAttr];repeat refine AI ?_
 refine hK _ _ _ ?_;clear hK K;have he:kR b=0:=by simpa using hb
 clear hb;have e1:ddE b=if(tZ b).isSome then 0 else 2:=by rw[ddE,if_neg (by simpa using he)]
 have e0:tZ b=(gT (mP b)).bind fun d=>if dvE d=0∧dvO d=b then some d else none:=by rw[tZ,if_pos he]
 refine aC fun K hK=>aE (by kernel_rfl) ?_;simp only[sR,simprocAttr];refine aF (g:=none) rfl rfl fun K' hK'=>?_;simp (maxSteps:=4000000) only[sH,↓sP,sA,tyS,simprocAttr,hdl];repeat refine AI ?_
 refine hK' _ _ ?_;clear hK' K';refine aF (g:=none) rfl rfl fun K' hK'=>?_;simp (maxSteps:=4000000) only[sH,↓sP,sA,tyS,simprocAttr,hdl];refine iU (args:=[_]) (cH3 (mP b) (by omega) (fun l h=>⟨List.length_pos_iff.2 (hwo l h).1,by have:=(hwo l h).2.1;omega⟩) (fun l h w hw=>by have:=(hwo l h).2.2 w hw;omega)) ⟨rfl,rfl,rfl,rfl⟩ ?_;rintro u v ⟨rfl,x,rfl,hx⟩;repeat refine AI ?_
 refine hK' _ _ ?_;clear hK' K';iterate 6
  (refine aF (g:=none) rfl rfl fun K' hK'=>?_;simp only[sH,↓sP,sA,tyS,simprocAttr,hdl];(repeat refine AI ?_);refine hK' _ _ ?_;clear hK' K')
 simp only[sE,↓reduceIte,simprocAttr];repeat refine AI ?_
 refine hK _ _ _ ?_;clear hK K;refine aC fun K hK=>?_;refine aC fun K hK=>aE (by kernel_rfl) ?_;simp (maxSteps:=4000000) only[↓sP,sA,tyS,simprocAttr];repeat refine AI ?_
 refine hK _ _ _ ?_;clear hK K;refine aK (b:=!(gT (mP b)).isSome) rfl (fun hb=>?_) (fun hb=>?_)
 ·
  have hno:gT (mP b)=none:=by simpa using hb
  have e3:tZ b=none:=by rw[e0,hno];rfl
  have e1:ddE b=2:=by rw[e1,e3];rfl
  have e2:ddO b=dv0:=by rw[ddO,e3];rfl
  clear hb;refine aC fun K hK=>aE (by kernel_rfl) ?_;simp (maxSteps:=4000000) only[↓sP,sA,tyS,simprocAttr,dH,dI];repeat refine AI ?_
  refine hK _ _ _ ?_;clear hK K;refine aH ?_;simp (maxSteps:=4000000) only[bS,Tryz.results27,bP,bR,bN,↓sP,sA,tyS,simprocAttr];refine sO (n:=2) rfl rfl ⟨by rw[e2],by rw[e1]⟩
 obtain⟨d,hd⟩:=Option.isSome_iff_exists.1 (show(gT (mP b)).isSome=true by simpa using hb);obtain rfl:=hx d hd;clear hb hx;rw[hd,Option.bind_some]at e0;have hw:=cU2 (cI6 hwo hlen hd);refine aM ?_;simp (maxSteps:=4000000) only[↓sP,sA,tyS,simprocAttr];repeat refine AI ?_
 refine hK _ _ _ ?_;clear hK K;refine aC fun K hK=>?_;refine aC fun K hK=>aE (by kernel_rfl) ?_;simp only[sR,simprocAttr];refine aF (g:=none) rfl rfl fun K' hK'=>?_;simp (maxSteps:=4000000) only[sH,↓sP,sA,tyS,simprocAttr];repeat refine AI ?_
 refine hK' _ _ ?_;clear hK' K';refine aF (g:=none) rfl rfl fun K' hK'=>?_;simp (maxSteps:=4000000) only[sH,↓sP,sA,tyS,simprocAttr];refine eU (args:=[_]) 0 (yT x hw) rfl (by simp) ⟨rfl,rfl,rfl,rfl⟩ ?_;rintro u v ⟨rfl,rfl⟩;repeat refine AI ?_
 refine hK' _ _ ?_;clear hK' K';iterate 5
  (refine aF (g:=none) rfl rfl fun K' hK'=>?_;simp only[sH,↓sP,sA,tyS,simprocAttr];(repeat refine AI ?_);refine hK' _ _ ?_;clear hK' K')
 simp only[sE,↓reduceIte,simprocAttr];repeat refine AI ?_
 refine hK _ _ _ ?_;clear hK K;refine aC fun K hK=>aE (by kernel_rfl) ?_;simp only[sR,simprocAttr];iterate 3
  (refine aF (g:=none) rfl rfl fun K' hK'=>?_;simp only[sH,↓sP,sA,tyS,simprocAttr,cP,denilL_u8];(repeat refine AI ?_);refine hK' _ _ ?_;clear hK' K')
 refine aG 33 rfl (fun h8_33=>?_) (fun h8_33=>?_)
 ·
  iterate 4
   (refine aF (g:=some (34,false)) rfl rfl fun K' hK'=>?_;simp only[sH,↓sP,sA,tyS,simprocAttr,cP,denilL_u8,h8_33];(repeat refine AI ?_);refine hK' _ _ ?_;clear hK' K')
  refine aF (g:=none) rfl rfl fun K' hK'=>?_;simp (maxSteps:=4000000) only[sH,↓sP,sA,tyS,simprocAttr,cP,denilL_u8,h8_33];repeat refine AI ?_
  refine hK' _ _ ?_;clear hK' K';simp only[sE,↓reduceIte,simprocAttr];repeat refine AI ?_
  refine hK _ _ _ ?_;clear hK K;refine aK (b:=true) rfl (fun hb=>?_) (fun hb=>?_)
  ·
   refine aC fun K hK=>aE (by kernel_rfl) ?_;simp (maxSteps:=4000000) only[↓sP,sA,tyS,simprocAttr,dH,dI];repeat refine AI ?_
   refine hK _ _ _ ?_;clear hK K;refine aH ?_;simp (maxSteps:=4000000) only[bS,Tryz.results27,bP,bR,bN,↓sP,sA,tyS,simprocAttr];have e3:tZ b=none:=by
    rw[e0,if_neg];rintro⟨h1,h2⟩;first|(rw[h1]at h8_33;exact absurd h8_33 (by decide))|(rw[h2]at h8_37;simp at h8_37)
   have e1:ddE b=2:=by rw[e1,e3];rfl
   have e2:ddO b=dv0:=by rw[ddO,e3];rfl
   refine sO (n:=2) rfl rfl ⟨by rw[e2],by rw[e1]⟩
  cases hb
 iterate 2
  (refine aF (g:=some (34,false)) rfl rfl fun K' hK'=>?_;simp only[sH,↓sP,sA,tyS,simprocAttr,cP,denilL_u8,h8_33];(repeat refine AI ?_);refine hK' _ _ ?_;clear hK' K')
 refine aF (g:=some (34,false)) rfl rfl fun K' hK'=>?_;simp (maxSteps:=4000000) only[sH,↓sP,sA,tyS,simprocAttr,cP,denilL_u8,h8_33];refine cZ (args:=[_,_]) (bN4 (dvO x) b) ⟨rfl,rfl,rfl,rfl⟩ ?_;rintro u rfl;repeat refine AI ?_
 refine hK' _ _ ?_;clear hK' K';refine aF (g:=some (34,false)) rfl rfl fun K' hK'=>?_;simp (maxSteps:=4000000) only[sH,↓sP,sA,tyS,simprocAttr,cP,denilL_u8,h8_33];repeat refine AI ?_
 refine hK' _ _ ?_;clear hK' K';refine aF (g:=none) rfl rfl fun K' hK'=>?_;simp (maxSteps:=4000000) only[sH,↓sP,sA,tyS,simprocAttr,cP,denilL_u8,h8_33];repeat refine AI ?_
 refine hK' _ _ ?_;clear hK' K';refine aG 37 rfl (fun h8_37=>?_) (fun h8_37=>?_)
 ·
  simp only[h8_37];simp only[sE,↓reduceIte,simprocAttr];repeat refine AI ?_
  refine hK _ _ _ ?_;clear hK K;refine aK (b:=false) rfl (fun hb=>?_) (fun hb=>?_)
  · cases hb
  refine aM ?_;simp (maxSteps:=4000000) only[↓sP,sA,tyS,simprocAttr];repeat refine AI ?_
  refine hK _ _ _ ?_;clear hK K;refine aC fun K hK=>aE (by kernel_rfl) ?_;simp (maxSteps:=4000000) only[↓sP,sA,tyS,simprocAttr];repeat refine AI ?_
  refine hK _ _ _ ?_;clear hK K;refine aH ?_;simp (maxSteps:=4000000) only[bS,Tryz.results27,bP,bR,bN,↓sP,sA,tyS,simprocAttr];have e3:tZ b=some x:=by rw[e0,if_pos ⟨by simpa using h8_33,by simpa using h8_37⟩]
  have e1:ddE b=0:=by rw[e1,e3];rfl
  have e2:ddO b=x:=by rw[ddO,e3];rfl
  exact fE [] x.cv (.int .i64 0) (by simp[HV.close,HV.closeL,Dv.denil,CV.denil,HV.norm,HV.toC,HV.toCL]) rfl (by simp) ⟨by rw[e2],by rw[e1]⟩
 simp only[h8_37];simp only[sE,↓reduceIte,simprocAttr];repeat refine AI ?_
 refine hK _ _ _ ?_;clear hK K;refine aK (b:=true) rfl (fun hb=>?_) (fun hb=>?_)
 ·
  refine aC fun K hK=>aE (by kernel_rfl) ?_;simp (maxSteps:=4000000) only[↓sP,sA,tyS,simprocAttr,dH,dI];repeat refine AI ?_
  refine hK _ _ _ ?_;clear hK K;refine aH ?_;simp (maxSteps:=4000000) only[bS,Tryz.results27,bP,bR,bN,↓sP,sA,tyS,simprocAttr];have e3:tZ b=none:=by
   rw[e0,if_neg];rintro⟨h1,h2⟩;first|(rw[h1]at h8_33;exact absurd h8_33 (by decide))|(rw[h2]at h8_37;simp at h8_37)
  have e1:ddE b=2:=by rw[e1,e3];rfl
  have e2:ddO b=dv0:=by rw[ddO,e3];rfl
  refine sO (n:=2) rfl rfl ⟨by rw[e2],by rw[e1]⟩
 cases hb
end Go.Proofs.YthedbjfipmkpiaaGreatDoor
namespace Go.Pl
open Go Go.Hl
variable {q:Rq}
theorem bZ6 (h:(q.k==1||(q.k==3||q.k==5))=true):eN q=(inB q.n 1 32&&fZ q ⟨q.k,q.n,0,[]⟩):=by grind[eN,fZ]
theorem aS9 (h:q.k=4):eN q=((inB q.n 1 32&&inB q.m 0 32)&&fZ q ⟨q.k,q.n,q.m,[]⟩):=by simp[eN,h,fZ,Bool.and_assoc]
theorem bZ7 (h:q.k=2):eN q=(eR q.t&&fZ q ⟨q.k,0,0,q.t⟩):=by simp[eN,h,fZ]
theorem bZ8 (h:q.k=6):eN q=(inB q.n 1 10&&fZ q ⟨q.k,q.n,0,[]⟩):=by simp[eN,h,fZ]
theorem bZ9 (h:q.k=7):eN q=(inB q.n 0 vS&&fZ q ⟨q.k,q.n,0,[]⟩):=by simp[eN,h,fZ]
theorem cA0 (h:q.k=8):eN q=(true&&fZ q ⟨q.k,0,0,[]⟩):=by simp[eN,h,fZ]
theorem bG3 (h:(q.k==1||(q.k==3||q.k==5))=false)(h4:q.k≠4)(h2:q.k≠2)(h6:q.k≠6)(h7:q.k≠7)(h8:q.k≠8):eN q=false:=by simp_all[eN,if_neg]
theorem zA (h:(q.k==1||(q.k==3||q.k==5))=true):eN q=(inB q.n 1 32&&(q.m==0&&q.t==[])):=by simp_all[eN,if_pos]
theorem sQ (h:(q.k==4)=true):eN q=(inB q.n 1 32&&(decide (0≤q.m)&&(decide (q.m≤32)&&q.t==[]))):=by grind[eN,inB,Bool.and_assoc]
theorem zB (h:(q.k==2)=true):eN q=(q.n==0&&(q.m==0&&eR q.t)):=by grind[eN,eR]
theorem sS (h:(q.k==6)=true):eN q=(decide (1≤q.n)&&(decide (q.n≤10)&&(q.m==0&&q.t==[]))):=by grind[eN,inB,Bool.and_assoc]
theorem zC (h:(q.k==7)=true):eN q=(inN q.n&&(q.m==0&&q.t==[])):=by
 have h':q.k=7:=by simpa using h
 have e:inB q.n 0 vS=inN q.n:=rfl;simp[eN,h',e]
theorem zD (h:(q.k==8)=true):eN q=(q.n==0&&(q.m==0&&q.t==[])):=by grind[eN]
def oG (n:Nd):Bool:=
 if n.k=1 then n.c==0&&(n.n==0&&eN n.q)
 else if n.k=2∨n.k=3 then decide (1≤n.c)&&(n.n==0&&fZ n.q rq0)
 else if n.k=4 then decide (1≤n.c)&&(decide (1≤n.n)&&(decide (n.n≤n.c)&&fZ n.q rq0))
 else false
theorem aK2 (n:Nd):dB n=(oG n&&!decide (60<n.c)):=by
 unfold dB oG inB;have e:(!decide (60<n.c))=decide (n.c≤60):=by
  by_cases h:n.c≤60
  · rw[decide_eq_true h,decide_eq_false (by omega)];rfl
  · rw[decide_eq_false h,decide_eq_true (by omega)];rfl
 rw[e];split
 ·
  by_cases h:n.c=0
  · simp[h]
  · simp[h]
 ·
  split
  · generalize decide (1≤n.c)=A;generalize decide (n.c≤60)=B;generalize fZ n.q rq0=C;generalize (n.n==0)=D;cases A<;>cases B<;>cases C<;>cases D<;>rfl
  ·
   split
   · generalize decide (1≤n.c)=A;generalize decide (n.c≤60)=B;generalize fZ n.q rq0=C;generalize decide (1≤n.n)=D;generalize decide (n.n≤n.c)=E;cases A<;>cases B<;>cases C<;>cases D<;>cases E<;>rfl
   · rfl
variable {n:Nd}
theorem qK (h:n.k=1):dB n=(n.c==0&&(n.n==0&&eN n.q)):=by simp only[dB,if_pos h]
theorem aG0 (h:(n.k==2||n.k==3)=true):dB n=((inB n.c 1 60&&fZ n.q rq0)&&n.n==0):=by
 have h':n.k=2∨n.k=3:=by simpa using h
 have h1:n.k≠1:=by omega
 simp_all[dB,if_neg,if_pos,Bool.and_assoc]
theorem qL (h:n.k=4):dB n=((inB n.c 1 60&&fZ n.q rq0)&&inB n.n 1 n.c):=by simp_all[dB,if_neg,if_pos,Bool.and_assoc]
theorem cA1 (h1:n.k≠1)(h:(n.k==2||n.k==3)=false)(h4:n.k≠4):dB n=false:=by simp_all[dB,if_neg]
theorem qM (h:n.k=1):oG n=(n.c==0&&(n.n==0&&eN n.q)):=by simp only[oG,if_pos h]
theorem uE (h:(n.k==2||n.k==3)=true):oG n=(decide (1≤n.c)&&(n.n==0&&fZ n.q rq0)):=by
 have h':n.k=2∨n.k=3:=by simpa using h
 have h1:n.k≠1:=by omega
 simp_all[oG,if_neg,if_pos]
theorem mU (h:n.k=4):oG n=(decide (1≤n.c)&&(decide (1≤n.n)&&(decide (n.n≤n.c)&&fZ n.q rq0))):=by simp_all[oG,if_neg,if_pos]
theorem cA2 (h1:n.k≠1)(h:(n.k==2||n.k==3)=false)(h4:n.k≠4):oG n=false:=by simp_all[oG,if_neg]
structure ScSt (l:List Nd)(i:Nat)(m v:Int):Prop where
 le:i≤l.length
 eq:rF l 1 0=rF (l.drop i) m v
 m0:0≤m
 m1:m≤1+60*i
 v0:0≤v
 v1:v≤i
theorem ScSt.init (l:List Nd):ScSt l 0 1 0:=⟨by omega,rfl,by omega,by omega,by omega,by omega⟩
variable {m v:Int}{i:Nat}{l:List Nd}
theorem ScSt.stop (h:ScSt l i m v)(hi:i<l.length)(hb:m=0∨dB l[i]=false):dU l=false:=by
 have:rF l 1 0=none:=by
  rw[h.eq,List.drop_eq_getElem_cons hi,rF];rcases hb with hb|hb
  · rw[if_pos hb]
  · grind
 simp[dU,this]
theorem ScSt.next (h:ScSt l i m v)(hi:i<l.length)(hm:m≠0)(hb:dB l[i]=true):ScSt l (i+1) (m+(l[i].c-1)) (if l[i].k=1 then v+1 else v):=by
 obtain⟨c1,c2,_,_⟩:=eS hb;have h0:=h.m0;have h1:=h.m1;have h2:=h.v0;have h3:=h.v1;refine⟨hi,?_,by omega,by omega,?_,?_⟩
 · rw[h.eq,List.drop_eq_getElem_cons hi,rF,if_neg hm,if_pos hb]
 all_goals grind
theorem ScSt.fin (h:ScSt l l.length m v)(h1:1≤l.length)(h2:l.length≤60):dU l=(m==0&&decide (v≤16)):=by
 have:rF l 1 0=some (m,v):=by rw[h.eq,List.drop_length];rfl
 grind[dU]
theorem lA (h:l.length<1∨60<l.length):dU l=false:=by grind[dU]
theorem jA {l:List Nd}{i:Int}(h:dU l=false∨i<0∨(l.length:Int)≤i):nS l i=[]:=by
 unfold nS;grind
theorem pE (h:dU l=true)(hi:i<l.length):nS l i=cY l l[i].c.toNat (i+1):=by simp_all[nS,if_pos,aI6]
theorem vK (h:dU l=false):dN l=[]:=by simp[dN,h]
theorem kN (h:dU l=true):dN l=eG 0 l:=by simp[dN,h]
theorem lJ : ∀{l:List Bool} {k:Nat},k<l.length→cnt (l.take (k+1))=cnt (l.take k)+(if l.getD k false=true then 1 else 0)
 |x::l,0,_=>by cases x<;>simp[cnt]
 |x::l,k+1,h=>by
  have h':k<l.length:=by simpa using h
  have e: ∀m,cnt ((x::l).take (m+1))=(if x=true then 1 else 0)+cnt (l.take m):=fun m=>by grind[cnt]
  rw[e,e,lJ h'];grind
theorem wE (h:i<l.length):lv (l.take (i+1))=lv (l.take i)+(if l[i].k=1 then 1 else 0):=by grind[List.take_succ_eq_append_getElem,tN,lv]
theorem zE (l:List Nd)(i:Nat):lv (l.take i)≤i:=by grind[bC7]
def bwL (l:List Nd):List (List CV):=(List.range l.length).map fun j=>[.int .i64 (l.length-1-j:Nat),(l.getD (l.length-1-j) nd0).cv]
theorem sT (l:List Nd):(bwL l).length=l.length:=by simp[bwL]
theorem cA3 {l:List Nd}{j:Nat}(h:j<(bwL l).length)(h2:l.length-1-j<l.length):(bwL l)[j]=[.int .i64 (l.length-1-j:Nat),(l[l.length-1-j]).cv]:=by simp[bwL,h2]
end Go.Pl
namespace Go.Proofs.YthedbjfipmkpiaaGreatDoor
open Go Go.Hl Go.Pl
set_option maxRecDepth 10000
set_option maxHeartbeats 16000000
theorem co3 :Tryz.prog.cellsOf 3=1:=by kernel_rfl
theorem co2 :Tryz.prog.cellsOf 2=1:=by kernel_rfl
theorem co9 :Tryz.prog.cellsOf 9=1:=by kernel_rfl
theorem cL6 (n:Nat)(x:Rq):CV.ofTy Tryz.prog (n+2) 87 x.cv=true:=by
 simp only[Rq.cv,CV.ofTyF,CV.ofTy,tyS,co2,co3,co9,CV.cells,beq_self_eq_true,Bool.and_true]
theorem aK3 (x y:Rq)(K:CV→Prop):iM Tryz.prog .eql 87 (.c x.cv) (.c y.cv) K=K (.bool (fZ x y)):=by
 have ha:aA5 Tryz.prog 87=true:=by kernel_rfl
 have h1:=cL6 6 x;have h2:=cL6 6 y;have e:CV.eqv (.agg [.int .i64 x.k,.int .i64 x.n,.int .i64 x.m,.str x.t]) (.agg [.int .i64 y.k,.int .i64 y.n,.int .i64 y.m,.str y.t])=fZ x y:=by simp only[CV.eqv,CV.eqvL,fZ,Bool.and_true]
 simp only[Rq.cv]at h1 h2⊢;simp only[iM,ha,h1,h2,e,true_and]
theorem cA4 :CV.agg [.int .i64 0,.int .i64 0,.int .i64 0,.str []]=rq0.cv:=rfl
theorem mA (n a b:Int):cE Tryz.prog 153 [.int .i64 n,.int .i64 a,.int .i64 b] (fun v=>v= .bool (inB n a b)):=by
 refine FW Tryz.func153 ?_;refine R0 ?_;refine aC fun K hK=>Rg ?_;iterate 4 refine S0 ?_
 refine aG 9 rfl (fun h1_9=>?_) (fun h1_9=>?_)
 ·
  have F:=h1_9;iterate 5 refine SF ?_
  refine T2 (hK _ _ _ ?_);clear hK K;refine aH (RT Tryz.results153 ?_);exact aJ [] (.bool _) rfl (by simp only[inB,h1_9,Bool.true_and,Bool.false_and])
 have F:=h1_9;iterate 5 refine SF ?_
 refine T2 (hK _ _ _ ?_);clear hK K;refine aH (RT Tryz.results153 ?_);exact aJ [] (.bool _) rfl (by simp only[inB,h1_9,Bool.true_and,Bool.false_and])
theorem aT0 (q:Rq)(hn:q.t.length<2^63):cE Tryz.prog 128 [q.cv] (fun v=>v= .bool (eN q)):=by
 refine FW Tryz.func128 ?_;refine R0 ?_;refine aC fun K hK=>Rg ?_;iterate 5 refine S0 ?_
 refine T2 (hK _ _ _ ?_);clear hK K;refine R0 ?_;refine aC fun K hK=>?_;have key0: ∀(s:Bool) (u:Rq) fr ob nx,eN q=(s&&fZ q u)→Fits 0 fr ob (fin [(1,.ptr 0 0),(3,.ptr 20 0),(4,.c (.bool s))]) (fob [(0,.box 87 (.c q.cv)),(20,.box 87 (.c u.cv))]) 1000→K fr ob nx:=by
  rintro s u fr ob nx hq hf;refine hK _ _ _ (bJ hf ?_);clear hf hK K;refine aC fun K hK=>Rg ?_;have F:=@aK3;iterate 2 refine SF ?_
  refine aG 62 rfl (fun h18_62=>?_) (fun h18_62=>?_)
  ·
   have F:=aI @aK3 h18_62;iterate 5 refine SF ?_
   refine T2 (hK _ _ _ ?_);clear hK K;refine aH (RT Tryz.results128 ?_);exact aJ [] (.bool _) rfl (by rw[hq,h18_62,Bool.true_and])
  have F:=aI @aK3 h18_62;iterate 5 refine SF ?_
  refine T2 (hK _ _ _ ?_);clear hK K;refine aH (RT Tryz.results128 ?_);exact aJ [] (.bool false) rfl (by rw[hq,h18_62,Bool.false_and])
 refine R0 ?_;refine aN ?_;refine aC fun K hK=>?_;have key: ∀(b:Bool) fr ob nx,b=(q.k==1||(q.k==3||q.k==5))→Fits 0 fr ob (fin [(1,.ptr 0 0),(3,.ptr 20 0),(4,.c (.bool true)),(9,.c (.int .i64 q.k)),(10,.c (.bool b))]) (fob [(0,.box 87 (.c q.cv)),(20,.box 87 (.c (Rq.cv ⟨q.k,0,0,[]⟩)))]) 300→K fr ob nx:=by
  rintro b fr ob nx rfl hf;refine hK _ _ _ (bJ hf ?_);clear hf hK K;refine aK (b:=_) rfl (fun hb=>?_) (fun hb=>?_)
  ·
   refine DW [(0,[],[]),(1,[],[]),(2,[],[]),(3,[],[]),(5,[],[]),(4,[],[0,1,5]),(6,[],[]),(7,[],[])] [0,1,0,4,12,3,63,127] ?_;iterate 5 refine W0 ?_
   refine cJ (g:=none) rfl rfl fun K' hK'=>T5 ?_;refine C3 (mA _ _ _) ?_;rintro u rfl;refine AX (hK' _ _ ?_);clear hK' K';iterate 2 refine W0 ?_
   refine T4 ?_;exact key0 (inB q.n 1 32) ⟨q.k,q.n,0,[]⟩ _ _ _ (bZ6 hb) (fF)
  have h1:=hb;refine R0 ?_;refine aK (b:=_) rfl (fun hb=>?_) (fun hb=>?_)
  ·
   refine DW [(0,[],[]),(1,[],[]),(2,[],[]),(3,[],[]),(4,[],[]),(5,[],[]),(12,[],[]),(6,[],[0,1,2,3,12]),(7,[],[]),(8,[],[]),(9,[],[]),(10,[],[0,1,2,3,12]),(11,[],[]),(13,[],[2,3,11]),(14,[],[]),(15,[],[11]),(16,[],[])] [0,1,0,4,0,16,48,112,240,496,1008,2032,3,6131,14335,30719,65535] ?_;iterate 7 refine W0 ?_
   refine cJ (g:=none) rfl rfl fun K' hK'=>T5 ?_;refine C3 (mA _ _ _) ?_;rintro u rfl;refine AX (hK' _ _ ?_);clear hK' K';refine W0 ?_;refine iK 28 rfl (fun h10_28=>?_) (fun h10_28=>?_)
   ·
    have F:=h10_28;iterate 2 refine WF ?_
    refine cJ (g:=some (29,true)) rfl rfl fun K' hK'=>T6 ?_;refine C3 (mA _ _ _) ?_;rintro u rfl;refine AX (hK' _ _ ?_);clear hK' K';iterate 5 refine WF ?_
    refine T4 ?_;exact key0 (inB q.m 0 32) ⟨q.k,q.n,q.m,[]⟩ _ _ _ (by rw[aS9 (by simpa using hb),h10_28,Bool.true_and]) (fF)
   have F:=h10_28;iterate 8 refine WF ?_
   refine T4 ?_;exact key0 false ⟨q.k,q.n,q.m,[]⟩ _ _ _ (by rw[aS9 (by simpa using hb),h10_28];rfl) (fF)
  have h2:=hb;refine R0 ?_;refine aK (b:=_) rfl (fun hb=>?_) (fun hb=>?_)
  ·
   refine DW [(0,[],[]),(1,[],[]),(2,[],[]),(3,[],[]),(5,[],[]),(4,[],[0,1,5]),(6,[],[]),(7,[],[])] [0,1,0,4,12,3,63,127] ?_;iterate 5 refine W0 ?_
   refine cJ (g:=none) rfl rfl fun K' hK'=>T5 ?_;refine C1 (cG0 _ hn) ?_;rintro u rfl;refine AX (hK' _ _ ?_);clear hK' K';iterate 2 refine W0 ?_
   refine T4 ?_;exact key0 (eR q.t) ⟨q.k,0,0,q.t⟩ _ _ _ (bZ7 (by simpa using hb)) (fF)
  have h3:=hb;refine R0 ?_;refine aK (b:=_) rfl (fun hb=>?_) (fun hb=>?_)
  ·
   refine DW [(0,[],[]),(1,[],[]),(2,[],[]),(3,[],[]),(5,[],[]),(4,[],[0,1,5]),(6,[],[]),(7,[],[])] [0,1,0,4,12,3,63,127] ?_;iterate 5 refine W0 ?_
   refine cJ (g:=none) rfl rfl fun K' hK'=>T5 ?_;refine C3 (mA _ _ _) ?_;rintro u rfl;refine AX (hK' _ _ ?_);clear hK' K';iterate 2 refine W0 ?_
   refine T4 ?_;exact key0 (inB q.n 1 10) ⟨q.k,q.n,0,[]⟩ _ _ _ (bZ8 (by simpa using hb)) (fF)
  have h4:=hb;refine R0 ?_;refine aK (b:=_) rfl (fun hb=>?_) (fun hb=>?_)
  ·
   refine DW [(0,[],[]),(1,[],[]),(2,[],[]),(3,[],[]),(5,[],[]),(4,[],[0,1,5]),(6,[],[]),(7,[],[])] [0,1,0,4,12,3,63,127] ?_;iterate 5 refine W0 ?_
   refine cJ (g:=none) rfl rfl fun K' hK'=>T5 ?_;refine C3 (mA _ _ _) ?_;rintro u rfl;refine AX (hK' _ _ ?_);clear hK' K';iterate 2 refine W0 ?_
   refine T4 ?_;exact key0 (inB q.n 0 1099511627776) ⟨q.k,q.n,0,[]⟩ _ _ _ (bZ9 (by simpa using hb)) (fF)
  have h5:=hb;refine R0 ?_;refine aK (b:=_) rfl (fun hb=>?_) (fun hb=>?_)
  · refine aM (T3 ?_);exact key0 true ⟨q.k,0,0,[]⟩ _ _ _ (cA0 (by simpa using hb)) (fF)
  refine R0 ?_;refine aH (RT Tryz.results128 ?_);exact aJ [] (.bool false) rfl (by rw[bG3 h1 (by simpa using h2) (by simpa using h3) (by simpa using h4) (by simpa using h5) (by simpa using hb)])
 refine R0 ?_;refine aK (b:=_) rfl (fun hb=>?_) (fun hb=>?_)
 · refine aM (T3 ?_);exact key (q.k==1) _ _ _ (by rw[hb];rfl) (fF)
 have h1:=hb;refine R0 ?_;refine aK (b:=_) rfl (fun hb=>?_) (fun hb=>?_)
 · refine aM (T3 ?_);exact key (q.k==3) _ _ _ (by rw[h1,hb];rfl) (fF)
 have h1':=hb;refine aE (by kernel_rfl) ?_;simp only[↓sP,sA,tyS,simprocAttr];exact key (q.k==5) _ _ _ (by rw[h1,h1'];rfl) (fF)
theorem cA5 (n:Nd)(hn:n.q.t.length<2^63):cE Tryz.prog 98 [n.cv] (fun v=>v= .bool (dB n)):=by
 refine FW Tryz.func98 ?_;refine R0 ?_;refine aC fun K hK=>?_;have key: ∀(b:Bool) fr ob nx,b=(inB n.c 1 60&&fZ n.q rq0)→Fits 0 fr ob (fin [(1,.ptr 0 0),(3,.c (.bool b))]) (fob [(0,.box 89 (.c n.cv))]) 100→K fr ob nx:=by
  rintro b fr ob nx rfl hf;refine hK _ _ _ (bJ hf ?_);clear hf hK K;refine aC fun K hK=>?_;refine R0 ?_;refine aN ?_;refine R0 ?_;refine aK (b:=_) rfl (fun hb=>?_) (fun hb=>?_)
  ·
   refine aC fun K hK=>Rg ?_;iterate 4 refine S0 ?_
   refine aG 24 rfl (fun h4_24=>?_) (fun h4_24=>?_)
   ·
    have F:=h4_24;iterate 5 refine SF ?_
    refine aG 28 rfl (fun h4_28=>?_) (fun h4_28=>?_)
    ·
     have F:=aI h4_24 h4_28;iterate 2 refine SF ?_
     refine aF (g:=some (30,true)) rfl rfl fun K' hK'=>T6 ?_;refine C1 (aT0 n.q hn) ?_;rintro u rfl;refine AX (hK' _ _ ?_);clear hK' K';iterate 2 refine SF ?_
     refine T2 (hK _ _ _ ?_);clear hK K;refine aH (RT Tryz.results98 ?_);exact aJ [] (.bool _) rfl (by rw[qK (by simpa using hb),h4_24,h4_28];rfl)
    have F:=aI h4_24 h4_28;iterate 5 refine SF ?_
    refine T2 (hK _ _ _ ?_);clear hK K;refine aH (RT Tryz.results98 ?_);exact aJ [] (.bool _) rfl (by rw[qK (by simpa using hb),h4_24,h4_28];rfl)
   have F:=h4_24;iterate 10 refine SF ?_
   refine T2 (hK _ _ _ ?_);clear hK K;refine aH (RT Tryz.results98 ?_);exact aJ [] (.bool _) rfl (by rw[qK (by simpa using hb),h4_24];rfl)
  have h1:n.k≠1:=by simpa using hb
  refine aC fun K hK=>?_;have key2: ∀(b:Bool) fr ob nx,b=(n.k==2||n.k==3)→Fits 0 fr ob (fin [(1,.ptr 0 0),(3,.c (.bool (inB n.c 1 60&&fZ n.q rq0))),(19,.c (.int .i64 n.k)),(35,.c (.bool b))]) (fob [(0,.box 89 (.c n.cv))]) 300→K fr ob nx:=by
   rintro b fr ob nx rfl hf;refine hK _ _ _ (bJ hf ?_);clear hf hK K;refine aK (b:=_) rfl (fun hb=>?_) (fun hb=>?_)
   ·
    refine aC fun K hK=>Rg ?_;iterate 2 refine S0 ?_
    refine aG 38 rfl (fun h7_38=>?_) (fun h7_38=>?_)
    ·
     have F:=h7_38;iterate 5 refine SF ?_
     refine T2 (hK _ _ _ ?_);clear hK K;refine aH (RT Tryz.results98 ?_);exact aJ [] (.bool _) rfl (by rw[aG0 hb,h7_38,Bool.true_and])
    have F:=h7_38;iterate 5 refine SF ?_
    refine T2 (hK _ _ _ ?_);clear hK K;refine aH (RT Tryz.results98 ?_);exact aJ [] (.bool _) rfl (by rw[aG0 hb,h7_38,Bool.false_and])
   have h2:=hb;refine R0 ?_;refine aK (b:=_) rfl (fun hb=>?_) (fun hb=>?_)
   ·
    refine aC fun K hK=>Rg ?_;iterate 2 refine S0 ?_
    refine aG 46 rfl (fun h9_46=>?_) (fun h9_46=>?_)
    ·
     have F:=h9_46;iterate 5 refine SF ?_
     refine aG 50 rfl (fun h9_50=>?_) (fun h9_50=>?_)
     ·
      have F:=aI h9_46 h9_50;iterate 7 refine SF ?_
      refine T2 (hK _ _ _ ?_);clear hK K;refine aH (RT Tryz.results98 ?_);exact aJ [] (.bool _) rfl (by rw[qL (by simpa using hb),h9_46,inB,h9_50];rfl)
     have F:=aI h9_46 h9_50;iterate 7 refine SF ?_
     refine T2 (hK _ _ _ ?_);clear hK K;refine aH (RT Tryz.results98 ?_);exact aJ [] (.bool _) rfl (by rw[qL (by simpa using hb),h9_46,inB,h9_50];rfl)
    have F:=h9_46;iterate 12 refine SF ?_
    refine T2 (hK _ _ _ ?_);clear hK K;refine aH (RT Tryz.results98 ?_);exact aJ [] (.bool _) rfl (by rw[qL (by simpa using hb),h9_46,Bool.false_and])
   refine aM ?_;refine T0 (hK _ _ _ ?_);clear hK K;refine R0 ?_;refine aH (RT Tryz.results98 ?_);exact aJ [] (.bool _) rfl (by rw[cA1 h1 h2 (by simpa using hb)])
  refine R0 ?_;refine aK (b:=_) rfl (fun hb=>?_) (fun hb=>?_)
  · refine aM (T3 ?_);exact key2 (n.k==2) _ _ _ (by rw[hb];rfl) (fF)
  have h2:=hb;refine aE (by kernel_rfl) ?_;simp only[↓sP,sA,tyS,simprocAttr];exact key2 (n.k==3) _ _ _ (by rw[hb];rfl) (fF)
 refine Rg ?_;have F:=aI @aK3 @cA4;iterate 4 refine SF ?_
 refine aG 6 rfl (fun h1_6=>?_) (fun h1_6=>?_)
 ·
  have F:=aI @aK3 (aI @cA4 h1_6);iterate 5 refine SF ?_
  refine aG 10 rfl (fun h1_10=>?_) (fun h1_10=>?_)
  ·
   have F:=aI @aK3 (aI @cA4 (aI h1_6 h1_10));iterate 6 refine SF ?_
   refine aG 16 rfl (fun h1_16=>?_) (fun h1_16=>?_)
   · simp only[h1_16];refine T4 ?_;exact key true _ _ _ (by first|(simp only[inB,rq0,h1_6,h1_10,h1_16,Bool.true_and,Bool.false_and,Bool.and_false,Bool.and_true];done)|(simp only[inB,h1_6,h1_10,Bool.true_and];exact Eq.symm h1_16)) (fF)
   simp only[h1_16];refine T4 ?_;exact key false _ _ _ (by first|(simp only[inB,rq0,h1_6,h1_10,h1_16,Bool.true_and,Bool.false_and,Bool.and_false,Bool.and_true];done)|(simp only[inB,h1_6,h1_10,Bool.true_and];exact Eq.symm h1_16)) (fF)
  have F:=aI @aK3 (aI @cA4 (aI h1_6 h1_10));iterate 6 refine SF ?_
  refine T4 ?_;exact key false _ _ _ (by first|(simp only[inB,rq0,h1_6,h1_10,Bool.true_and,Bool.false_and,Bool.and_false,Bool.and_true];done)|(simp only[inB,h1_6,h1_10,Bool.true_and];exact Eq.symm h1_16)) (fF)
 have F:=aI @aK3 (aI @cA4 h1_6);iterate 11 refine SF ?_
 refine T4 ?_;exact key false _ _ _ (by first|(simp only[inB,rq0,h1_6,Bool.true_and,Bool.false_and,Bool.and_false,Bool.and_true];done)|(simp only[inB,h1_6,h1_10,Bool.true_and];exact Eq.symm h1_16)) (fF)
theorem cC (n:Int)(h: -4611686018427387904≤n∧n≤4611686018427387904):IntKind.i64.wrap n=n:=IntWalk.i64_in _ (by omega)
theorem bG4 (l:List Nd)(hn: ∀n∈l,n.q.t.length<2^63):cE Tryz.prog 64 [.slc (l.map Nd.cv)] (fun v=>v= .bool (dU l)):=by
 refine FW Tryz.func64 ?_;refine R0 ?_;refine aC fun K hK=>?_;refine aC fun K hK=>Rg ?_;iterate 4 refine S0 ?_
 refine aG 9 rfl (fun h1_9=>?_) (fun h1_9=>?_)
 ·
  have F:=h1_9;iterate 4 refine SF ?_
  refine T2 (hK _ _ _ ?_);clear hK K;refine CT rfl ?_;refine R0 ?_;refine aH (RT Tryz.results64 ?_);exact aJ [] (.bool false) rfl (by rw[lA (.inl (by simp only[decide_eq_true_eq]at h1_9;omega))])
 have F:=h1_9;iterate 4 refine SF ?_
 refine aG 13 rfl (fun h1_13=>?_) (fun h1_13=>?_)
 · simp only[h1_13];refine T2 (hK _ _ _ ?_);clear hK K;refine CT rfl ?_;refine R0 ?_;refine aH (RT Tryz.results64 ?_);exact aJ [] (.bool false) rfl (by rw[lA (.inr (by simp only[decide_eq_true_eq]at h1_13;omega))])
 simp only[h1_13];refine T2 (hK _ _ _ ?_);clear hK K;refine CF rfl ?_;refine aM ?_;refine T0 (hK _ _ _ ?_);clear hK K;have hl1:1≤l.length:=by simp only[decide_eq_false_iff_not]at h1_9;omega
 have hl2:l.length≤60:=by simp only[decide_eq_false_iff_not]at h1_13;omega
 clear h1_9 h1_13;refine R0 ?_;refine aC fun K hK=>?_;refine R0 ?_;refine aN ?_;refine bH (α:={y:Nat×Int×Int//ScSt l y.1 y.2.1 y.2.2}) (fun y=>(fin [(3,.c (.int .i64 y.1.2.1)),(4,.c (.int .i64 y.1.2.2)),(15,.c (.slc (l.map Nd.cv))),(16,.c (.int .i64 l.length)),(17,.c (.int .i64 y.1.1))],fob [])) 200 (fun y=>l.length-y.1.1) ⟨(0,1,0),ScSt.init l⟩ (fF) ?_;rintro⟨⟨i,m,v⟩,hst⟩;simp only at hst;have hi:=hst.le;have hm0:=hst.m0;have hm1:=hst.m1;have hv0:=hst.v0;have hv1:=hst.v1;refine R0 ?_;refine aC fun K hK=>?_;refine aK (b:=decide ((i:Int)<l.length)) rfl (fun hb=>?_) (fun hb=>?_)
 ·
  have hlt:i<l.length:=by simpa using hb
  clear hb;refine aM ?_;refine T0 (hK _ _ _ ?_);clear hK K;refine aC fun K hK=>?_;refine aN ?_;refine aC fun K hK=>Rg ?_;have F:=aI @Int.natCast_nonneg (aI @Int.ofNat_lt (aI hlt (nM hlt)));iterate 4 refine SF ?_
  refine T2 (hK _ _ _ ?_);clear hK K;refine aC fun K hK=>?_;refine aC fun K hK=>Rg ?_;iterate 3 refine S0 ?_
  refine aG 22 rfl (fun h7_22=>?_) (fun h7_22=>?_)
  ·
   have F:=h7_22;iterate 4 refine SF ?_
   refine T2 (hK _ _ _ ?_);clear hK K;refine CT rfl ?_;refine R0 ?_;refine aH (RT Tryz.results64 ?_);exact aJ [] (.bool false) rfl (by rw[hst.stop hlt (.inl (by simpa using h7_22))])
  have F:=h7_22;refine SF ?_;refine aF (g:=some (23,false)) rfl rfl fun K' hK'=>T6 ?_;refine C1 (cA5 l[i] (hn _ (List.getElem_mem hlt))) ?_;rintro u rfl;refine AX (hK' _ _ ?_);clear hK' K';iterate 2 refine SF ?_
  refine aG 25 rfl (fun h7_25=>?_) (fun h7_25=>?_)
  ·
   simp only[h7_25];refine T2 (hK _ _ _ ?_);clear hK K;refine CF rfl ?_;refine aM ?_;refine T0 (hK _ _ _ ?_);clear hK K;have hnb:dB l[i]=true:=by simpa using h7_25
   have hm:m≠0:=by simpa using h7_22
   obtain⟨c1,c2,c3,c4⟩:=eS hnb;have hnx:=hst.next hlt hm hnb;clear h7_22 h7_25;refine aC fun K hK=>Rg ?_;iterate 6 refine S0 ?_ (e:=fun _ h_=>by simp only[sH,↓sP,sA,tyS,simprocAttr,cC (l[i].c-1) (by omega),cC (m+(l[i].c-1)) (by omega)];exact AX h_)
   refine T2 (hK _ _ _ ?_);clear hK K;refine R0 ?_;refine aK (b:=_) rfl (fun hb=>?_) (fun hb=>?_)
   · refine aE (by kernel_rfl) ?_;simp only[↓sP,sA,tyS,simprocAttr,cC (v+1) (by omega)];refine AX (hK _ _ _ ?_);clear hK K;refine aE (by kernel_rfl) ?_;simp only[↓sP,sA,tyS,simprocAttr,cC ((i:Int)+1) (by omega)];rw[if_pos (by simpa using hb)]at hnx;refine⟨⟨(i+1,_,_),hnx⟩,fF,?_⟩;show l.length-(i+1)<l.length-i;omega
   refine aM ?_;refine T0 (hK _ _ _ ?_);clear hK K;refine aE (by kernel_rfl) ?_;simp only[↓sP,sA,tyS,simprocAttr,cC ((i:Int)+1) (by omega)];rw[if_neg (by simpa using hb)]at hnx;refine⟨⟨(i+1,_,_),hnx⟩,fF,?_⟩;show l.length-(i+1)<l.length-i;omega
  simp only[h7_25];refine T2 (hK _ _ _ ?_);clear hK K;refine CT rfl ?_;refine R0 ?_;refine aH (RT Tryz.results64 ?_);exact aJ [] (.bool false) rfl (by rw[hst.stop hlt (.inr (by simpa using h7_25))])
 refine aZ (T3 ?_);clear hK K;refine AX (hK _ _ _ ?_);clear hK K;have hei:i=l.length:=by simp only[decide_eq_false_iff_not]at hb;omega
 subst hei;have hf:=hst.fin hl1 hl2;clear hb;refine aC fun K hK=>Rg ?_;iterate 3 refine S0 ?_
 refine aG 40 rfl (fun h13_40=>?_) (fun h13_40=>?_)
 ·
  have F:=h13_40;iterate 4 refine SF ?_
  refine T2 (hK _ _ _ ?_);clear hK K;refine aH (RT Tryz.results64 ?_);exact aJ [] (.bool _) rfl (by rw[hf,h13_40,Bool.true_and])
 have F:=h13_40;iterate 4 refine SF ?_
 refine T2 (hK _ _ _ ?_);clear hK K;refine aH (RT Tryz.results64 ?_);exact aJ [] (.bool false) rfl (by rw[hf,h13_40,Bool.false_and])
theorem cI7 (q:Rq)(hn:q.t.length<2^63):cE Tryz.prog 133 [q.cv] (fun v=>v= .bool (eN q)):=by
 refine FW Tryz.func133 ?_;refine R0 ?_;refine aC fun K hK=>?_;have key0: ∀(b:Bool) fr ob nx,b=inB q.n 1 32→Fits 0 fr ob (fin [(1,.ptr 0 0),(3,.c (.bool b))]) (fob [(0,.box 87 (.c q.cv))]) 100→K fr ob nx:=by
  rintro b fr ob nx rfl hf;refine hK _ _ _ (bJ hf ?_);clear hf hK K;refine aC fun K hK=>?_;refine R0 ?_;refine aN ?_;refine aC fun K hK=>?_;have key: ∀(b:Bool) fr ob nx,b=(q.k==1||(q.k==3||q.k==5))→Fits 0 fr ob (fin [(1,.ptr 0 0),(3,.c (.bool (inB q.n 1 32))),(13,.c (.int .i64 q.k)),(14,.c (.bool b))]) (fob [(0,.box 87 (.c q.cv))]) 300→K fr ob nx:=by
   rintro b fr ob nx rfl hf;refine hK _ _ _ (bJ hf ?_);clear hf hK K;refine aK (b:=_) rfl (fun hb=>?_) (fun hb=>?_)
   ·
    refine aC fun K hK=>Rg ?_;iterate 2 refine S0 ?_
    refine aG 18 rfl (fun h6_18=>?_) (fun h6_18=>?_)
    ·
     have F:=h6_18;iterate 5 refine SF ?_
     refine aG 22 rfl (fun h6_22=>?_) (fun h6_22=>?_)
     ·
      have F:=aI h6_18 h6_22;iterate 5 refine SF ?_
      refine T2 (hK _ _ _ ?_);clear hK K;refine aH (RT Tryz.results133 ?_);exact aJ [] (.bool _) rfl (by rw[zA hb,h6_18,h6_22];rfl)
     have F:=aI h6_18 h6_22;iterate 5 refine SF ?_
     refine T2 (hK _ _ _ ?_);clear hK K;refine aH (RT Tryz.results133 ?_);exact aJ [] (.bool _) rfl (by rw[zA hb,h6_18,h6_22];rfl)
    have F:=h6_18;iterate 10 refine SF ?_
    refine T2 (hK _ _ _ ?_);clear hK K;refine aH (RT Tryz.results133 ?_);exact aJ [] (.bool _) rfl (by rw[zA hb,h6_18];rfl)
   have h1:=hb;refine R0 ?_;refine aK (b:=_) rfl (fun hb=>?_) (fun hb=>?_)
   ·
    refine aC fun K hK=>Rg ?_;iterate 2 refine S0 ?_
    refine aG 31 rfl (fun h8_31=>?_) (fun h8_31=>?_)
    ·
     have F:=h8_31;iterate 5 refine SF ?_
     refine aG 35 rfl (fun h8_35=>?_) (fun h8_35=>?_)
     ·
      have F:=aI h8_31 h8_35;iterate 5 refine SF ?_
      refine aG 40 rfl (fun h8_40=>?_) (fun h8_40=>?_)
      ·
       have F:=aI h8_31 (aI h8_35 h8_40);iterate 5 refine SF ?_
       refine T2 (hK _ _ _ ?_);clear hK K;refine aH (RT Tryz.results133 ?_);exact aJ [] (.bool _) rfl (by rw[sQ hb,h8_31,h8_35,h8_40];rfl)
      have F:=aI h8_31 (aI h8_35 h8_40);iterate 5 refine SF ?_
      refine T2 (hK _ _ _ ?_);clear hK K;refine aH (RT Tryz.results133 ?_);exact aJ [] (.bool _) rfl (by rw[sQ hb,h8_31,h8_35,h8_40];rfl)
     have F:=aI h8_31 h8_35;iterate 10 refine SF ?_
     refine T2 (hK _ _ _ ?_);clear hK K;refine aH (RT Tryz.results133 ?_);exact aJ [] (.bool _) rfl (by rw[sQ hb,h8_31,h8_35];rfl)
    have F:=h8_31;iterate 15 refine SF ?_
    refine T2 (hK _ _ _ ?_);clear hK K;refine aH (RT Tryz.results133 ?_);exact aJ [] (.bool _) rfl (by rw[sQ hb,h8_31];rfl)
   have h2:=hb;refine R0 ?_;refine aK (b:=_) rfl (fun hb=>?_) (fun hb=>?_)
   ·
    refine aC fun K hK=>Rg ?_;iterate 4 refine S0 ?_
    refine aG 51 rfl (fun h10_51=>?_) (fun h10_51=>?_)
    ·
     have F:=h10_51;iterate 5 refine SF ?_
     refine aG 55 rfl (fun h10_55=>?_) (fun h10_55=>?_)
     ·
      have F:=aI h10_51 h10_55;iterate 2 refine SF ?_
      refine aF (g:=some (57,true)) rfl rfl fun K' hK'=>T6 ?_;refine C1 (bX8 _ hn) ?_;rintro u rfl;refine AX (hK' _ _ ?_);clear hK' K';iterate 2 refine SF ?_
      refine T2 (hK _ _ _ ?_);clear hK K;refine aH (RT Tryz.results133 ?_);exact aJ [] (.bool _) rfl (by rw[zB hb,h10_51,h10_55];rfl)
     have F:=aI h10_51 h10_55;iterate 5 refine SF ?_
     refine T2 (hK _ _ _ ?_);clear hK K;refine aH (RT Tryz.results133 ?_);exact aJ [] (.bool _) rfl (by rw[zB hb,h10_51,h10_55];rfl)
    have F:=h10_51;iterate 10 refine SF ?_
    refine T2 (hK _ _ _ ?_);clear hK K;refine aH (RT Tryz.results133 ?_);exact aJ [] (.bool _) rfl (by rw[zB hb,h10_51];rfl)
   have h3:=hb;refine R0 ?_;refine aK (b:=_) rfl (fun hb=>?_) (fun hb=>?_)
   ·
    refine aC fun K hK=>Rg ?_;iterate 4 refine S0 ?_
    refine aG 66 rfl (fun h12_66=>?_) (fun h12_66=>?_)
    ·
     have F:=h12_66;iterate 5 refine SF ?_
     refine aG 70 rfl (fun h12_70=>?_) (fun h12_70=>?_)
     ·
      have F:=aI h12_66 h12_70;iterate 5 refine SF ?_
      refine aG 75 rfl (fun h12_75=>?_) (fun h12_75=>?_)
      ·
       have F:=aI h12_66 (aI h12_70 h12_75);iterate 5 refine SF ?_
       refine T2 (hK _ _ _ ?_);clear hK K;refine aH (RT Tryz.results133 ?_);exact aJ [] (.bool _) rfl (by rw[sS hb,h12_66,h12_70,h12_75];rfl)
      have F:=aI h12_66 (aI h12_70 h12_75);iterate 5 refine SF ?_
      refine T2 (hK _ _ _ ?_);clear hK K;refine aH (RT Tryz.results133 ?_);exact aJ [] (.bool _) rfl (by rw[sS hb,h12_66,h12_70,h12_75];rfl)
     have F:=aI h12_66 h12_70;iterate 10 refine SF ?_
     refine T2 (hK _ _ _ ?_);clear hK K;refine aH (RT Tryz.results133 ?_);exact aJ [] (.bool _) rfl (by rw[sS hb,h12_66,h12_70];rfl)
    have F:=h12_66;iterate 15 refine SF ?_
    refine T2 (hK _ _ _ ?_);clear hK K;refine aH (RT Tryz.results133 ?_);exact aJ [] (.bool _) rfl (by rw[sS hb,h12_66];rfl)
   have h4:=hb;refine R0 ?_;refine aK (b:=_) rfl (fun hb=>?_) (fun hb=>?_)
   ·
    refine aC fun K hK=>Rg ?_;iterate 2 refine S0 ?_
    refine HS rfl rfl fun K' hK'=>T5 ?_;refine C1 (aZ9 _) ?_;rintro u rfl;refine AX (hK' _ _ ?_);clear hK' K';refine S0 ?_;refine aG 86 rfl (fun h14_86=>?_) (fun h14_86=>?_)
    ·
     have F:=h14_86;iterate 5 refine SF ?_
     refine aG 90 rfl (fun h14_90=>?_) (fun h14_90=>?_)
     ·
      have F:=aI h14_86 h14_90;iterate 5 refine SF ?_
      refine T2 (hK _ _ _ ?_);clear hK K;refine aH (RT Tryz.results133 ?_);exact aJ [] (.bool _) rfl (by rw[zC hb,h14_86,h14_90];rfl)
     have F:=aI h14_86 h14_90;iterate 5 refine SF ?_
     refine T2 (hK _ _ _ ?_);clear hK K;refine aH (RT Tryz.results133 ?_);exact aJ [] (.bool _) rfl (by rw[zC hb,h14_86,h14_90];rfl)
    have F:=h14_86;iterate 10 refine SF ?_
    refine T2 (hK _ _ _ ?_);clear hK K;refine aH (RT Tryz.results133 ?_);exact aJ [] (.bool _) rfl (by rw[zC hb,h14_86];rfl)
   have h5:=hb;refine R0 ?_;refine aK (b:=_) rfl (fun hb=>?_) (fun hb=>?_)
   ·
    refine aC fun K hK=>Rg ?_;iterate 4 refine S0 ?_
    refine aG 101 rfl (fun h16_101=>?_) (fun h16_101=>?_)
    ·
     have F:=h16_101;iterate 5 refine SF ?_
     refine aG 105 rfl (fun h16_105=>?_) (fun h16_105=>?_)
     ·
      have F:=aI h16_101 h16_105;iterate 5 refine SF ?_
      refine T2 (hK _ _ _ ?_);clear hK K;refine aH (RT Tryz.results133 ?_);exact aJ [] (.bool _) rfl (by rw[zD hb,h16_101,h16_105];rfl)
     have F:=aI h16_101 h16_105;iterate 5 refine SF ?_
     refine T2 (hK _ _ _ ?_);clear hK K;refine aH (RT Tryz.results133 ?_);exact aJ [] (.bool _) rfl (by rw[zD hb,h16_101,h16_105];rfl)
    have F:=h16_101;iterate 10 refine SF ?_
    refine T2 (hK _ _ _ ?_);clear hK K;refine aH (RT Tryz.results133 ?_);exact aJ [] (.bool _) rfl (by rw[zD hb,h16_101];rfl)
   refine aM ?_;refine T0 (hK _ _ _ ?_);clear hK K;refine R0 ?_;refine aH (RT Tryz.results133 ?_);exact aJ [] (.bool false) rfl (by rw[bG3 h1 (by simpa using h2) (by simpa using h3) (by simpa using h4) (by simpa using h5) (by simpa using hb)])
  refine R0 ?_;refine aK (b:=_) rfl (fun hb=>?_) (fun hb=>?_)
  · refine aM (T3 ?_);exact key (q.k==1) _ _ _ (by rw[hb];rfl) (fF)
  have h1:=hb;refine R0 ?_;refine aK (b:=_) rfl (fun hb=>?_) (fun hb=>?_)
  · refine aM (T3 ?_);exact key (q.k==3) _ _ _ (by rw[h1,hb];rfl) (fF)
  have h1':=hb;refine aE (by kernel_rfl) ?_;simp only[↓sP,sA,tyS,simprocAttr];exact key (q.k==5) _ _ _ (by rw[h1,h1'];rfl) (fF)
 refine Rg ?_;iterate 4 refine S0 ?_
 refine aG 6 rfl (fun h1_6=>?_) (fun h1_6=>?_)
 ·
  have F:=h1_6;iterate 5 refine SF ?_
  refine aG 10 rfl (fun h1_10=>?_) (fun h1_10=>?_)
  · simp only[h1_10];refine T4 ?_;exact key0 true _ _ _ (by simp only[inB,h1_6,h1_10,Bool.true_and,Bool.false_and]) (fF)
  simp only[h1_10];refine T4 ?_;exact key0 false _ _ _ (by simp only[inB,h1_6,h1_10,Bool.true_and,Bool.false_and]) (fF)
 have F:=h1_6;iterate 5 refine SF ?_
 refine T4 ?_;exact key0 false _ _ _ (by simp only[inB,h1_6,Bool.true_and,Bool.false_and]) (fF)
theorem cA6 (n:Nd)(hn:n.q.t.length<2^63):cE Tryz.prog 106 [n.cv] (fun v=>v= .bool (oG n)):=by
 refine FW Tryz.func106 ?_;refine R0 ?_;refine aC fun K hK=>Rg ?_;have F:=@aK3;iterate 5 refine SF ?_
 refine T2 (hK _ _ _ ?_);clear hK K;refine aC fun K hK=>?_;refine R0 ?_;refine aN ?_;refine R0 ?_;refine aK (b:=_) rfl (fun hb=>?_) (fun hb=>?_)
 ·
  refine aC fun K hK=>Rg ?_;iterate 4 refine S0 ?_
  refine aG 14 rfl (fun h4_14=>?_) (fun h4_14=>?_)
  ·
   have F:=h4_14;iterate 5 refine SF ?_
   refine aG 18 rfl (fun h4_18=>?_) (fun h4_18=>?_)
   ·
    have F:=aI h4_14 h4_18;iterate 2 refine SF ?_
    refine aF (g:=some (20,true)) rfl rfl fun K' hK'=>T6 ?_;refine C1 (cI7 n.q hn) ?_;rintro u rfl;refine AX (hK' _ _ ?_);clear hK' K';iterate 2 refine SF ?_
    refine T2 (hK _ _ _ ?_);clear hK K;refine aH (RT Tryz.results106 ?_);exact aJ [] (.bool _) rfl (by rw[qM (by simpa using hb),h4_14,h4_18];rfl)
   have F:=aI h4_14 h4_18;iterate 5 refine SF ?_
   refine T2 (hK _ _ _ ?_);clear hK K;refine aH (RT Tryz.results106 ?_);exact aJ [] (.bool _) rfl (by rw[qM (by simpa using hb),h4_14,h4_18];rfl)
  have F:=h4_14;iterate 10 refine SF ?_
  refine T2 (hK _ _ _ ?_);clear hK K;refine aH (RT Tryz.results106 ?_);exact aJ [] (.bool _) rfl (by rw[qM (by simpa using hb),h4_14];rfl)
 have h1:n.k≠1:=by simpa using hb
 refine aC fun K hK=>?_;have key2: ∀(b:Bool) fr ob nx,b=(n.k==2||n.k==3)→Fits 0 fr ob (fin [(1,.ptr 0 0),(3,.c (.bool (fZ n.q rq0))),(9,.c (.int .i64 n.k)),(25,.c (.bool b))]) (fob [(0,.box 89 (.c n.cv))]) 300→K fr ob nx:=by
  rintro b fr ob nx rfl hf;refine hK _ _ _ (bJ hf ?_);clear hf hK K;refine aK (b:=_) rfl (fun hb=>?_) (fun hb=>?_)
  ·
   refine aC fun K hK=>Rg ?_;iterate 4 refine S0 ?_
   refine aG 30 rfl (fun h7_30=>?_) (fun h7_30=>?_)
   ·
    have F:=h7_30;iterate 5 refine SF ?_
    refine aG 34 rfl (fun h7_34=>?_) (fun h7_34=>?_)
    ·
     have F:=aI h7_30 h7_34;iterate 3 refine SF ?_
     refine T2 (hK _ _ _ ?_);clear hK K;refine aH (RT Tryz.results106 ?_);exact aJ [] (.bool _) rfl (by rw[uE hb,h7_30,h7_34];rfl)
    have F:=aI h7_30 h7_34;iterate 3 refine SF ?_
    refine T2 (hK _ _ _ ?_);clear hK K;refine aH (RT Tryz.results106 ?_);exact aJ [] (.bool _) rfl (by rw[uE hb,h7_30,h7_34];rfl)
   have F:=h7_30;iterate 8 refine SF ?_
   refine T2 (hK _ _ _ ?_);clear hK K;refine aH (RT Tryz.results106 ?_);exact aJ [] (.bool _) rfl (by rw[uE hb,h7_30];rfl)
  have h2:=hb;refine R0 ?_;refine aK (b:=_) rfl (fun hb=>?_) (fun hb=>?_)
  ·
   refine aC fun K hK=>Rg ?_;iterate 4 refine S0 ?_
   refine aG 43 rfl (fun h9_43=>?_) (fun h9_43=>?_)
   ·
    have F:=h9_43;iterate 5 refine SF ?_
    refine aG 47 rfl (fun h9_47=>?_) (fun h9_47=>?_)
    ·
     have F:=aI h9_43 h9_47;iterate 7 refine SF ?_
     refine aG 54 rfl (fun h9_54=>?_) (fun h9_54=>?_)
     ·
      have F:=aI h9_43 (aI h9_47 h9_54);iterate 3 refine SF ?_
      refine T2 (hK _ _ _ ?_);clear hK K;refine aH (RT Tryz.results106 ?_);exact aJ [] (.bool _) rfl (by rw[mU (by simpa using hb),h9_43,h9_47,h9_54];rfl)
     have F:=aI h9_43 (aI h9_47 h9_54);iterate 3 refine SF ?_
     refine T2 (hK _ _ _ ?_);clear hK K;refine aH (RT Tryz.results106 ?_);exact aJ [] (.bool _) rfl (by rw[mU (by simpa using hb),h9_43,h9_47,h9_54];rfl)
    have F:=aI h9_43 h9_47;iterate 10 refine SF ?_
    refine T2 (hK _ _ _ ?_);clear hK K;refine aH (RT Tryz.results106 ?_);exact aJ [] (.bool _) rfl (by rw[mU (by simpa using hb),h9_43,h9_47];rfl)
   have F:=h9_43;iterate 15 refine SF ?_
   refine T2 (hK _ _ _ ?_);clear hK K;refine aH (RT Tryz.results106 ?_);exact aJ [] (.bool _) rfl (by rw[mU (by simpa using hb),h9_43];rfl)
  refine aM ?_;refine T0 (hK _ _ _ ?_);clear hK K;refine R0 ?_;refine aH (RT Tryz.results106 ?_);exact aJ [] (.bool _) rfl (by rw[cA2 h1 h2 (by simpa using hb)])
 refine R0 ?_;refine aK (b:=_) rfl (fun hb=>?_) (fun hb=>?_)
 · refine aM (T3 ?_);exact key2 (n.k==2) _ _ _ (by rw[hb];rfl) (aO (by omega) (by simp[aX,fin_at,finA_at,upd_at,HV.men,HV.menL,HV.norm,HV.toC,HV.toCL,rq0]) (by simp[aY,fob_at,upd_at,none0_at,bO,HO.men,HV.men,HV.menL,HV.norm,HV.toC,HV.toCL,rq0]))
 have h2:=hb;refine aE (by kernel_rfl) ?_;simp only[↓sP,sA,tyS,simprocAttr];exact key2 (n.k==3) _ _ _ (by rw[hb];rfl) (aO (by omega) (by simp[aX,fin_at,finA_at,upd_at,HV.men,HV.menL,HV.norm,HV.toC,HV.toCL,rq0]) (by simp[aY,fob_at,upd_at,none0_at,bO,HO.men,HV.men,HV.menL,HV.norm,HV.toC,HV.toCL,rq0]))
theorem aT1 (l:List Nd)(hn: ∀n∈l,n.q.t.length<2^63):cE Tryz.prog 76 [.slc (l.map Nd.cv)] (fun v=>v= .bool (dU l)):=by
 refine FW Tryz.func76 ?_;refine R0 ?_;refine aC fun K hK=>?_;refine aC fun K hK=>Rg ?_;iterate 4 refine S0 ?_
 refine aG 8 rfl (fun h1_8=>?_) (fun h1_8=>?_)
 ·
  have F:=h1_8;iterate 4 refine SF ?_
  refine T2 (hK _ _ _ ?_);clear hK K;refine CT rfl ?_;refine R0 ?_;refine aH (RT Tryz.results76 ?_);exact aJ [] (.bool false) rfl (by rw[lA (.inl (by simp only[decide_eq_true_eq]at h1_8;omega))])
 have F:=h1_8;iterate 4 refine SF ?_
 refine aG 12 rfl (fun h1_12=>?_) (fun h1_12=>?_)
 · simp only[h1_12];refine T2 (hK _ _ _ ?_);clear hK K;refine CT rfl ?_;refine R0 ?_;refine aH (RT Tryz.results76 ?_);exact aJ [] (.bool false) rfl (by rw[lA (.inr (by simp only[decide_eq_true_eq]at h1_12;omega))])
 simp only[h1_12];refine T2 (hK _ _ _ ?_);clear hK K;refine CF rfl ?_;refine aM ?_;refine T0 (hK _ _ _ ?_);clear hK K;have hl1:1≤l.length:=by simp only[decide_eq_false_iff_not]at h1_8;omega
 have hl2:l.length≤60:=by simp only[decide_eq_false_iff_not]at h1_12;omega
 clear h1_8 h1_12;refine R0 ?_;refine aC fun K hK=>?_;refine R0 ?_;refine aN ?_;refine bH (α:={y:Nat×Int×Int//ScSt l y.1 y.2.1 y.2.2}) (fun y=>(fin [(0,.c (.slc (l.map Nd.cv))),(3,.c (.int .i64 y.1.2.1)),(4,.c (.int .i64 y.1.2.2)),(5,.c (.int .i64 y.1.1))],fob [])) 200 (fun y=>l.length-y.1.1) ⟨(0,1,0),ScSt.init l⟩ (fF) ?_;rintro⟨⟨i,m,v⟩,hst⟩;simp only at hst;have hi:=hst.le;have hm0:=hst.m0;have hm1:=hst.m1;have hv0:=hst.v0;have hv1:=hst.v1;refine aC fun K hK=>?_;refine aC fun K hK=>Rg ?_;iterate 4 refine S0 ?_
 refine T2 (hK _ _ _ ?_);clear hK K;refine aK (b:=decide ((i:Int)<l.length)) rfl (fun hb=>?_) (fun hb=>?_)
 ·
  have hlt:i<l.length:=by simpa using hb
  clear hb;refine aM ?_;refine T0 (hK _ _ _ ?_);clear hK K;refine aC fun K hK=>?_;refine aN ?_;refine aC fun K hK=>?_;refine aC fun K hK=>Rg ?_;have F:=aI @Int.natCast_nonneg (aI @Int.ofNat_lt (aI hlt (nM hlt)));iterate 3 refine SF ?_
  refine aG 21 rfl (fun h7_21=>?_) (fun h7_21=>?_)
  ·
   have F:=aI @Int.natCast_nonneg (aI @Int.ofNat_lt (aI hlt (aI (nM hlt) h7_21)));iterate 15 refine SF ?_
   refine T2 (hK _ _ _ ?_);clear hK K;refine CT rfl ?_;refine R0 ?_;refine aH (RT Tryz.results76 ?_);exact aJ [] (.bool false) rfl (by rw[hst.stop hlt (.inl (by simpa using h7_21))])
  have F:=aI @Int.natCast_nonneg (aI @Int.ofNat_lt (aI hlt (aI (nM hlt) h7_21)));iterate 4 refine SF ?_
  refine aF (g:=some (22,false)) rfl rfl fun K' hK'=>T6 ?_;refine C1 (cA6 l[i] (hn _ (List.getElem_mem hlt))) ?_;rintro u rfl;refine AX (hK' _ _ ?_);clear hK' K';iterate 3 refine SF ?_
  refine aG 27 rfl (fun h7_27=>?_) (fun h7_27=>?_)
  ·
   have F:=aI @Int.natCast_nonneg (aI @Int.ofNat_lt (aI hlt (aI (nM hlt) (aI h7_21 h7_27))));iterate 7 refine SF ?_
   refine aG 36 rfl (fun h7_36=>?_) (fun h7_36=>?_)
   · simp only[h7_36];refine T2 (hK _ _ _ ?_);clear hK K;refine CT rfl ?_;refine R0 ?_;refine aH (RT Tryz.results76 ?_);exact aJ [] (.bool false) rfl (by rw[hst.stop hlt (.inr (by rw[aK2,h7_27,h7_36];rfl))])
   simp only[h7_36];refine T2 (hK _ _ _ ?_);clear hK K;refine CF rfl ?_;refine aM ?_;refine T0 (hK _ _ _ ?_);clear hK K;have hnb:dB l[i]=true:=by rw[aK2,h7_27,h7_36];rfl
   have hm:m≠0:=by simpa using h7_21
   obtain⟨c1,c2,c3,c4⟩:=eS hnb;have hnx:=hst.next hlt hm hnb;clear h7_21 h7_27 h7_36;refine aC fun K hK=>Rg ?_;iterate 9 refine S0 ?_ (e:=fun _ h_=>by simp only[sH,↓sP,sA,tyS,simprocAttr,Int.natCast_nonneg,Int.ofNat_lt,hlt,bK hlt,cC (l[i].c-1) (by omega),cC (m+(l[i].c-1)) (by omega)];exact AX h_)
   refine T2 (hK _ _ _ ?_);clear hK K;refine aC fun K hK=>Rg ?_;have F:=aI @Int.natCast_nonneg (aI @Int.ofNat_lt (aI hlt (nM hlt)));iterate 6 refine SF ?_
   refine T2 (hK _ _ _ ?_);clear hK K;refine aK (b:=_) rfl (fun hb=>?_) (fun hb=>?_)
   · refine aE (by kernel_rfl) ?_;simp only[↓sP,sA,tyS,simprocAttr,cC (v+1) (by omega)];refine AX (hK _ _ _ ?_);clear hK K;refine aE (by kernel_rfl) ?_;simp only[↓sP,sA,tyS,simprocAttr,cC ((i:Int)+1) (by omega)];rw[if_pos (by simpa using hb)]at hnx;refine⟨⟨(i+1,_,_),hnx⟩,fF,?_⟩;show l.length-(i+1)<l.length-i;omega
   refine aM ?_;refine T0 (hK _ _ _ ?_);clear hK K;refine aE (by kernel_rfl) ?_;simp only[↓sP,sA,tyS,simprocAttr,cC ((i:Int)+1) (by omega)];rw[if_neg (by simpa using hb)]at hnx;refine⟨⟨(i+1,_,_),hnx⟩,fF,?_⟩;show l.length-(i+1)<l.length-i;omega
  have F:=aI @Int.natCast_nonneg (aI @Int.ofNat_lt (aI hlt (aI (nM hlt) (aI h7_21 h7_27))));iterate 7 refine SF ?_
  refine T2 (hK _ _ _ ?_);clear hK K;refine CT rfl ?_;refine R0 ?_;refine aH (RT Tryz.results76 ?_);exact aJ [] (.bool false) rfl (by rw[hst.stop hlt (.inr (by rw[aK2,h7_27];rfl))])
 refine aZ (T3 ?_);clear hK K;refine AX (hK _ _ _ ?_);clear hK K;have hei:i=l.length:=by simp only[decide_eq_false_iff_not]at hb;omega
 subst hei;have hf:=hst.fin hl1 hl2;clear hb;refine aC fun K hK=>Rg ?_;iterate 3 refine S0 ?_
 refine aG 55 rfl (fun h12_55=>?_) (fun h12_55=>?_)
 ·
  have F:=h12_55;iterate 4 refine SF ?_
  refine T2 (hK _ _ _ ?_);clear hK K;refine aH (RT Tryz.results76 ?_);exact aJ [] (.bool _) rfl (by rw[hf,h12_55,Bool.true_and])
 have F:=h12_55;iterate 4 refine SF ?_
 refine T2 (hK _ _ _ ?_);clear hK K;refine aH (RT Tryz.results76 ?_);exact aJ [] (.bool false) rfl (by rw[hf,h12_55,Bool.false_and])
end Go.Proofs.YthedbjfipmkpiaaGreatDoor
