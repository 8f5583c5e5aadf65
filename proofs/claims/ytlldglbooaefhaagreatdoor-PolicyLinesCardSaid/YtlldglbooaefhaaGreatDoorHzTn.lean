/- Part of a proof: walks of functions of the program, by contracts, and the rules they use. By an AI agent. -/
import Derived.Test.YtlldglbooaefhaaGreatDoorHzU1
import Derived.Test.YtlldglbooaefhaaGreatDoorPl28x
import Derived.Test.YtlldglbooaefhaaGreatDoorHlTlaw
import Derived.Test.YtlldglbooaefhaaGreatDoorHzV3
import Derived.Test.YtlldglbooaefhaaGreatDoorHzTj
import Derived.Test.YtlldglbooaefhaaGreatDoorPl28q
set_option linter.unusedSimpArgs false
set_option linter.unusedVariables false
set_option linter.defProp false
namespace Go.Proofs.YtlldglbooaefhaaGreatDoor
open Go Go.Hl Go.Pl
set_option maxRecDepth 10000
set_option maxHeartbeats 16000000
structure Ds where
 i:Nat
 n:aF
 v:Int
 r:List Pr
 W:List Nat
 x:Option (Pr×Nat×Bool)
def Ds.ms (y:Ds):Ms:=match y.x with
 |none=>⟨y.n,y.v,y.r,[],false⟩
 |some (q,m,d)=>⟨y.n,y.v,y.r++[q],y.W.take m,d⟩
def hpN (n:aF)(v:Int)(r:List Pr)(W:List Nat):List (Nat×HO):=
 [(0,.box 45 (.c (.agg [.str [],.int .i64 0,.slc []]))),(52,.box 100 (rbx n v (.own 64 r.length) (cN 65 W.length 1 0) false)),(64,.row 54 5 (r.map Pr.cv)),(65,.row 3 1 (W.map iC))]
abbrev rl4 (r:List Pr)(q:Pr)(N:Nat):List HV:=(r.map fun x=>HV.c x.cv)++[.agg [.c (.str q.a),.c (.str q.b),.c (.str q.c),.c (.int .i64 q.g),.own N q.t.length]]
def hpS (n:aF)(v:Int)(r:List Pr)(W:List Nat)(q:Pr)(m:Nat)(d:Bool)(N:Nat):List (Nat×HO):=
 [(0,.box 45 (.c (.agg [.str [],.int .i64 0,.slc []]))),(52,.box 100 (rbx n v (.own 64 (r.length+1)) (cN 65 W.length 1 m) d)),(64,.hrow 54 5 (rl4 r q N)),(65,.row 3 1 (W.map iC)),(N,.row 40 7 (q.t.map Nd.cv))]
def Ds.hp (y:Ds):List (Nat×HO):=match y.x with
 |none=>hpN y.n y.v y.r y.W
 |some (q,m,d)=>hpS y.n y.v y.r y.W q m d 66
structure DI (ls:List (List aF))(y:Ds):Prop where
 le:y.i≤ls.length
 hr:y.r.length≤y.i
 hW:y.W.length≤y.i
 run:RunM ls y.i y.ms
 hx: ∀q m d,y.x=some (q,m,d)→0<y.i∧m≤y.W.length∧(d=true∨0<m)∧(∀j∈y.W.take m,j<q.t.length)∧q.t.length≤y.i∧ ∀z∈q.t,0≤z.c∧z.c≤(y.i:Int)
variable {nid:Nat}{W:List Nat}{r:List Pr}{v:Int}{n:aF}{ob:Ob}
theorem at2 (h0:ob 52=some (.box 100 (rbx n v (.own 64 r.length) (cN 65 W.length 1 0) false)))(h1:ob 64=some (.hrow 54 5 ((r.map Pr.cv).map .c)))(h2:ob 65=some (.row 3 1 (W.map iC))):
  aA1 ob (sub [52,64,65] nid) [52,64,65] (os2 n v r W):=by
 refine⟨?_,?_,?_,trivial⟩
 · rw[h0];simp[HO.ren,HV.ren,HV.renL,rbx,gE,sub]
 · rw[h1,List.map_map];simp only[HO.ren,jN];rfl
 rw[h2];rfl
variable {d:Bool}{m:Nat}{q:Pr}
theorem at3 (h0:ob 52=some (.box 100 (rbx n v (.own 64 (r.length+1)) (cN 65 W.length 1 m) d)))(h1:ob 64=some (.hrow 54 5 (rl4 r q 66)))(h2:ob 65=some (.row 3 1 (W.map iC)))(h3:ob 66=some (.row 40 7 (q.t.map Nd.cv))):
  aA1 ob (sub [52,64,65,66] nid) [52,64,65,66] (os3 n v r q.a q.b q.c q.g q.t W m d):=by
 refine⟨?_,?_,?_,?_,trivial⟩
 · rw[h0];simp[HO.ren,HV.ren,HV.renL,rbx,gE,sub]
 · rw[h1];simp[HO.ren,HV.ren,HV.renL,jN,lW,sub]
 · rw[h2];rfl
 rw[h3];rfl
theorem up2 :kD (sub [52,64,65] nid) ob 0 (os2 n v r W)=
  upd (upd (upd ob 52 (some (.box 100 (rbx n v (.own 64 r.length) (cN 65 W.length 1 0) false)))) 64 (some (.hrow 54 5 (r.map fun x=> .c x.cv)))) 65 (some (.row 3 1 (W.map iC))):=by
 simp[kD,HO.ren,HV.ren,HV.renL,rbx,gE,jN,sub]
theorem up3 {M:Nat→Nat}{N:Nat}(h0:M 0=52)(h1:M 1=64)(h2:M 2=65)(h3:M 3=N):kD M ob 0 (os3 n v r q.a q.b q.c q.g q.t W m d)=
  upd (upd (upd (upd ob 52 (some (.box 100 (rbx n v (.own 64 (r.length+1)) (cN 65 W.length 1 m) d)))) 64 (some (.hrow 54 5 (rl4 r q N)))) 65 (some (.row 3 1 (W.map iC)))) N (some (.row 40 7 (q.t.map Nd.cv))):=by
 simp[kD,HO.ren,HV.ren,HV.renL,rbx,gE,jN,lW,h0,h1,h2,h3]
theorem bE9 {x:HV}{c:CV}(h:x.toC=some c): ∀r:List Pr,HV.toCL ((r.map fun x=>HV.c x.cv)++[x])=some (r.map Pr.cv++[c])
 |[]=>by simp[HV.toCL,h]
 |y::r=>by simp[HV.toCL,HV.toC,bE9 h r]
theorem bL8 {M:Nat→Prop}{id n sz:Nat}(h:M id):(cN id n sz m).men M:=by unfold cN;split<;>simpa[HV.men]using h
theorem tU (w:List aF):(lsC w).denil=lsC w:=by simp[lsC,CV.denil,denilL_str]
theorem bL9 (M:Nat→Nat)(v:CV):HV.ren M (.c v)= .c v:=rfl
theorem sJ {cl:List Nat}{n:Nat}(h:cl.contains 65=false):(cN 65 n 1 m).close ob cl=cN 65 n 1 m:=by
 unfold cN;have:65∉cl:=by simpa using h
 split<;>simp[HV.close,this]
theorem cF9 (b:aF)(hl:b.length<2^40):wY Tryz.prog 33 [.slc (b.map u8)] (fun u v x=>u=(dpO b).cv∧v= .int .i64 (dpL b:Nat)∧x= .int .i64 (dpE b)):=by
 have hlen:=aP9 (b:=b);have hne:=aG9 (b:=b);have hB:=bY4 b;refine FW Tryz.func33 ?_;refine R0 ?_;refine aB fun K hK=>Rg ?_;have F:=@denilL_u8;refine SF ?_;refine HS rfl rfl fun K' hK'=>T6 ?_;refine D1 (cF3 b hl) ?_;rintro u v ⟨rfl,rfl⟩;refine AX (hK' _ _ ?_);clear hK' K';iterate 5 refine SF ?_
 refine T2 (hK _ _ _ ?_);clear hK K;refine aB fun K hK=>?_;refine R0 ?_;refine aG (b:=!(eL b==0)) rfl (fun hb=>?_) (fun hb=>?_)
 ·
  have he:eL b≠0:=by simpa using hb
  have e1:dpE b=eL b:=by rw[dpE,if_pos he]
  have e2:dpL b=0:=by rw[dpL,if_pos he]
  have e3:dpO b=po0:=by rw[dpO,e1,if_neg he]
  clear hb;refine aB fun K hK=>Rg ?_;iterate 5 refine S0 ?_
  refine T2 (hK _ _ _ ?_);clear hK K;refine aE (RT Tryz.results33 ?_);exact dO [] po0.cv (.int .i64 0) (.int .i64 (eL b)) (by simp[HV.close,HV.closeL,po0,Po.cv,CV.denil,CV.denilL,HV.norm,HV.toC,HV.toCL]) (by rw[e1,e2,e3];exact⟨rfl,rfl,rfl⟩)
 refine aJ ?_;refine T0 (hK _ _ _ ?_);clear hK K;have he:eL b=0:=by simpa using hb
 clear hb;have hno:=fun r (h:rdP (decO b)=(none,r))=>cQ3 he h;have hok:=fun p r (h:rdP (decO b)=(some p,r))=>cQ4 he h;obtain⟨ls,hls⟩: ∃ls,ls=decO b:=⟨_,rfl⟩;rw[←hls]at hno hok hlen hne hB⊢;refine R0 ?_;refine aB fun K hK=>?_;refine R0 ?_;refine aN ?_;refine qZ 52 2 54 5 rfl rfl rfl rfl ?_;refine qZ 52 3 3 1 rfl rfl rfl rfl ?_;refine dF [] ?_;refine bS (α:={y:Ds//DI ls y}) (fun y=>(fin [(2,.ptr 0 0),(5,.c (.slc (ls.map lsC))),(7,.ptr 52 0),(8,.c (.int .i64 y.1.i))],fob y.1.hp)) 20000 (fun y=>ls.length-y.1.i) ⟨⟨0,[],0,[],[],none⟩,⟨Nat.zero_le _,Nat.le_refl _,Nat.le_refl _,.inl ⟨rfl,rfl⟩,fun q m d h=>by cases h⟩⟩ (by simp only[Ds.hp,hpN];exact aL (by omega) (by simp[aY,fin_at,finA_at,upd_at,HV.men,HV.menL,HV.norm,HV.toC,HV.toCL,eB,eC,HO.close,HV.close,HV.closeL,CV.denil,CV.denilL,aT,rbx,aW]) (by simp[aZ,fob_at,upd_at,none0_at,bV,HO.men,HV.men,HV.menL,HV.norm,HV.toC,HV.toCL,eB,eC,HO.close,HV.close,HV.closeL,CV.denil,CV.denilL,aT,rbx,aW])) ?_;rintro⟨⟨i,n,v,r,W,x⟩,hy⟩;have hy1:=hy.le;have hy2:=hy.hr;have hy3:=hy.hW;have hrun:=hy.run;have hyx:=hy.hx;simp only at hy1 hy2 hy3 hrun hyx;refine aB fun K hK=>?_;by_cases hxn:x=none
 ·
  subst hxn;simp only[Ds.hp,hpN];refine aB fun K hK=>Rg ?_;have F:=@List.length_map.{0,0};iterate 4 refine SF ?_
  refine T2 (hK _ _ _ ?_);clear hK K;refine aG (b:=decide ((i:Int)<ls.length)) rfl (fun hb=>?_) (fun hb=>?_)
  ·
   have hlt:i<ls.length:=by simpa using hb
   have hw0:0<ls[i].length:=List.length_pos_iff.2 (hne _ (List.getElem_mem hlt)).1;clear hb;refine aJ ?_;refine T0 (hK _ _ _ ?_);clear hK K;refine aB fun K hK=>?_;refine aN ?_;by_cases hi:i=0
   ·
    cases hs:cS ls[i] true zM
    ·
     subst hi;have hz:(⟨n,v,r,[],false⟩:Ms)=zM:=by
      rcases hrun with⟨_,h⟩|⟨h,_⟩
      · exact h
      exact absurd h (Nat.lt_irrefl 0)
     cases hz;obtain rfl:W=[]:=List.length_eq_zero_iff.1 (by omega);refine vJ 64 rfl ?_;refine aB fun K hK=>Rg ?_;have F:=aI @eS (aI @tU (aI @Int.natCast_nonneg (aI @Int.ofNat_lt (aI hlt (aI @Int.toNat_natCast (aI (nM hlt) (aI @List.length_map.{0,0} (show(((0:Nat):Int)==0)=true from rfl))))))));iterate 7 refine SF ?_
     refine HS rfl rfl fun K' hK'=>T6 ?_;refine fP [52,64,65] (aS7 ls[0] hw0) rfl (at2 (n:=[]) (v:=0) (r:=[]) (W:=[]) rfl rfl rfl) (by simp) (by simp) ⟨rfl,rfl,rfl,rfl⟩ (by simp[st0,rbx,eU,HO.men,HV.men,HV.menL]) (by simp[st0,HV.menL,HV.men]) ?_;rintro u os' ⟨rfl,hos⟩;rw[hs]at hos⊢;obtain rfl:os'=os2 [] 0 [] []:=hos;rw[up2,bL9];refine AX (hK' _ _ ?_);clear hK' K';refine SF ?_;refine T2 (hK _ _ _ ?_);clear hK K;refine CT rfl ?_;refine aB fun K hK=>Rg ?_;iterate 5 refine S0 ?_
     refine T2 (hK _ _ _ ?_);clear hK K;refine aE (RT Tryz.results33 ?_);obtain⟨e1,e2,e3⟩:=hno _ (RunM.no0 hlt hs);exact dO [] po0.cv (.int .i64 0) (.int .i64 2) (by simp[HV.close,HV.closeL,po0,Po.cv,CV.denil,CV.denilL,HV.norm,HV.toC,HV.toCL]) (by rw[e1,e2,e3,List.drop_zero,Nat.sub_self];exact⟨rfl,rfl,rfl⟩)
    subst hi;have hz:(⟨n,v,r,[],false⟩:Ms)=zM:=by
     rcases hrun with⟨_,h⟩|⟨h,_⟩
     · exact h
     exact absurd h (Nat.lt_irrefl 0)
    cases hz;obtain rfl:W=[]:=List.length_eq_zero_iff.1 (by omega);refine vJ 64 rfl ?_;refine aB fun K hK=>Rg ?_;have F:=aI @eS (aI @tU (aI @Int.natCast_nonneg (aI @Int.ofNat_lt (aI hlt (aI @Int.toNat_natCast (aI (nM hlt) (aI @List.length_map.{0,0} (show(((0:Nat):Int)==0)=true from rfl))))))));iterate 7 refine SF ?_
    refine HS rfl rfl fun K' hK'=>T6 ?_;refine fP [52,64,65] (aS7 ls[0] hw0) rfl (at2 (n:=[]) (v:=0) (r:=[]) (W:=[]) rfl rfl rfl) (by simp) (by simp) ⟨rfl,rfl,rfl,rfl⟩ (by simp[st0,rbx,eU,HO.men,HV.men,HV.menL]) (by simp[st0,HV.menL,HV.men]) ?_;rintro u os' ⟨rfl,hos⟩;obtain⟨y,hs⟩: ∃y,cS ls[0] true zM=some y:=⟨_,hs⟩;rw[hs]at hos⊢;obtain⟨hyy,hos⟩:=hos;obtain rfl:os'=os2 y.n y.v [] []:=hos;rw[up2,bL9];refine AX (hK' _ _ ?_);clear hK' K';refine SF ?_;refine T2 (hK _ _ _ ?_);clear hK K;refine CF rfl ?_;refine aJ ?_;refine T0 (hK _ _ _ ?_);clear hK K;refine bA8 64 [] rfl rfl ?_;refine aK (by kernel_rfl) ?_;refine TQ (show IntKind.i64.wrap (((0:Nat):Int)+1)=((1:Nat):Int)from rfl) ?_;refine⟨⟨⟨1,y.n,y.v,[],[],none⟩,⟨hlt,Nat.zero_le _,Nat.zero_le _,by have h:=RunM.first hlt hs;rw[hyy]at h;exact h,fun q m d h=>by cases h⟩⟩,?_,?_⟩
    · simp only[Ds.hp,hpN];exact aL (by omega) (by simp[aY,fin_at,finA_at,upd_at,HV.men,HV.menL,HV.norm,HV.toC,HV.toCL,rbx,aW,(show IntKind.i64.wrap 1=1 from rfl)]) (by simp[aZ,fob_at,upd_at,none0_at,bV,HO.men,HV.men,HV.menL,HV.norm,HV.toC,HV.toCL,rbx,aW,(show IntKind.i64.wrap 1=1 from rfl)])
    show ls.length-1<ls.length-0;omega
   cases hs:cS ls[i] false ⟨n,v,r,[],false⟩
   ·
    have hi0:0<i:=by omega
    refine vJ 64 rfl ?_;refine aB fun K hK=>Rg ?_;have F:=aI @eS (aI @tU (aI @Int.natCast_nonneg (aI @Int.ofNat_lt (aI hlt (aI @Int.toNat_natCast (aI (nM hlt) (aI @List.length_map.{0,0} (show((i:Int)==0)=false from beq_false_of_ne (by omega)))))))));iterate 7 refine SF ?_
    refine HS rfl rfl fun K' hK'=>T6 ?_;refine fP [52,64,65] (aS8 ls[i] hw0 n v r W (by omega)) rfl (at2 rfl rfl rfl) (by simp) (by simp) ⟨rfl,rfl,rfl,rfl⟩ (by simp[rbx,eU,HO.men,HV.men,HV.menL,aU,bN]) (by simp[HV.menL,HV.men]) ?_;rintro u os' ⟨rfl,hos⟩;rw[hs]at hos⊢;obtain rfl:os'=os2 n v r W:=hos;rw[up2,bL9];refine AX (hK' _ _ ?_);clear hK' K';refine SF ?_;refine T2 (hK _ _ _ ?_);clear hK K;refine CT rfl ?_;refine aB fun K hK=>Rg ?_;iterate 5 refine S0 ?_
    refine T2 (hK _ _ _ ?_);clear hK K;refine aE (RT Tryz.results33 ?_);obtain⟨e1,e2,e3⟩:=hno _ (RunM.no hrun hi0 hlt hs);have e4:ls.length-(ls.drop i).length=i:=by rw[List.length_drop];omega
    exact dO [] po0.cv (.int .i64 i) (.int .i64 2) (by simp[HV.close,HV.closeL,po0,Po.cv,CV.denil,CV.denilL,HV.norm,HV.toC,HV.toCL]) (by rw[e1,e2,e3,e4];exact⟨rfl,rfl,rfl⟩)
   have hi0:0<i:=by omega
   refine vJ 64 rfl ?_;refine aB fun K hK=>Rg ?_;have F:=aI @eS (aI @tU (aI @Int.natCast_nonneg (aI @Int.ofNat_lt (aI hlt (aI @Int.toNat_natCast (aI (nM hlt) (aI @List.length_map.{0,0} (show((i:Int)==0)=false from beq_false_of_ne (by omega)))))))));iterate 7 refine SF ?_
   refine HS rfl rfl fun K' hK'=>T6 ?_;refine fP [52,64,65] (aS8 ls[i] hw0 n v r W (by omega)) rfl (at2 rfl rfl rfl) (by simp) (by simp) ⟨rfl,rfl,rfl,rfl⟩ (by simp[rbx,eU,HO.men,HV.men,HV.menL,aU,bN]) (by simp[HV.menL,HV.men]) ?_;rintro u os' ⟨rfl,hos⟩;obtain⟨y,hs⟩: ∃y,cS ls[i] false ⟨n,v,r,[],false⟩=some y:=⟨_,hs⟩;rw[hs]at hos⊢;obtain⟨g,hyy,hos⟩:=hos;obtain⟨Q,hQ⟩: ∃Q:Pr,Q=⟨wd ls[i] 1,wd ls[i] 2,wd ls[i] 3,g,[]⟩:=⟨_,rfl⟩;obtain rfl:os'=os3 n v r Q.a Q.b Q.c Q.g Q.t W 0 true:=by rw[hQ];exact hos
   have hQt:Q.t=[]:=by rw[hQ]
   rw[←hQ]at hyy;clear hQ hos;rw[up3 (N:=20044) rfl rfl rfl rfl,bL9];refine AX (hK' _ _ ?_);clear hK' K';refine SF ?_;refine T2 (hK _ _ _ ?_);clear hK K;refine CF rfl ?_;refine aJ ?_;refine T0 (hK _ _ _ ?_);clear hK K;refine cL4 20044 66 20100 [(2,.ptr 0 0),(5,.c (.slc (ls.map lsC))),(7,.ptr 52 0),(8,.c (.int .i64 i))] (hpS n v r W Q 0 true 20044) (by simp[aY,fin_at,finA_at,upd_at,HV.men,HV.menL]) (by simp[hpS,aZ,fob_at,upd_at,none0_at,bV,HO.men,HV.men,HV.menL,HV.menL_append,bN,rbx,aU]) (by omega) (by omega) (by omega) (by omega) (by omega) (by omega) (by omega) (by simp[HV.men]) (by simp[hpS,HO.men,HV.men,HV.menL,HV.menL_append,bN,rbx,bL8]) (bH (fr2:=fin [(2,.ptr 0 0),(5,.c (.slc (ls.map lsC))),(7,.ptr 52 0),(8,.c (.int .i64 i))]) (ob2:=fob (hpS n v r W Q 0 true 66)) (nx2:=20200) (by simp only[hpS];exact aL (by omega) (by simp[aY,fin_at,finA_at,upd_at,HV.men,HV.menL,HV.norm,HV.toC,HV.toCL,mvF,mvO,mvN,HV.ren,HO.ren,HV.renL,lW,jN,HV.menL_append,bN,rbx,aU,gE]) (by simp[aZ,fob_at,upd_at,none0_at,bV,HO.men,HV.men,HV.menL,HV.norm,HV.toC,HV.toCL,mvF,mvO,mvN,HV.ren,HO.ren,HV.renL,lW,jN,HV.menL_append,bN,rbx,aU,gE])) ?_);simp only[hpS];refine aK (by kernel_rfl) ?_;refine TQ (show IntKind.i64.wrap ((i:Int)+1)=((i+1:Nat):Int)from by rw[IntWalk.i64_in _ (by omega)];rfl) ?_;refine⟨⟨⟨i+1,n,v,r,W,some (Q,0,true)⟩,⟨hlt,by simp only;omega,by simp only;omega,by have h:=RunM.next hrun hi0 hlt hs;rw[hyy]at h;exact h,fun q m d h=>by cases h;exact⟨by simp only;omega,Nat.zero_le _,.inl rfl,by simp,by rw[hQt];simp,by rw[hQt];simp⟩⟩⟩,?_,?_⟩
   · simp only[Ds.hp,hpS];exact aL (by omega) (by simp[aY,fin_at,finA_at,upd_at,HV.men,HV.menL,HV.norm,HV.toC,HV.toCL,HV.menL_append,bN,rbx,aU]) (by simp[aZ,fob_at,upd_at,none0_at,bV,HO.men,HV.men,HV.menL,HV.norm,HV.toC,HV.toCL,HV.menL_append,bN,rbx,aU])
   show ls.length-(i+1)<ls.length-i;omega
  obtain rfl:i=ls.length:=by simp at hb;omega
  clear hb;refine bI (T3 ?_);clear hK K;refine AX (hK _ _ _ ?_);clear hK K;refine aB fun K hK=>?_;refine aB fun K hK=>?_;have key: ∀(b0:Bool) fr ob nx,b0=decide (ls.length=0)→Fits 0 fr ob (fin [(2,.ptr 0 0),(5,.c (.slc (ls.map lsC))),(7,.ptr 52 0),(53,.c (.bool b0))]) (fob (hpN n v r W)) 30000→K fr ob nx:=by
   rintro b0 fr ob nx rfl hf;refine hK _ _ _ (bH hf ?_);clear hf hK K;simp only[hpN];refine aG (b:=decide (ls.length=0)) rfl (fun hb=>?_) (fun hb=>?_)
   ·
    refine aB fun K hK=>Rg ?_;iterate 6 refine SF ?_
    refine T2 (hK _ _ _ ?_);clear hK K;refine aE (RT Tryz.results33 ?_);have hr:rdP ls=(none,[]):=by rw[List.length_eq_zero_iff.1 (of_decide_eq_true hb)];rfl
    obtain⟨e1,e2,e3⟩:=hno _ hr;exact dO [] po0.cv (.int .i64 ls.length) (.int .i64 2) (by simp[HV.close,HV.closeL,po0,Po.cv,CV.denil,CV.denilL,HV.norm,HV.toC,HV.toCL]) (by rw[e1,e2,e3];exact⟨rfl,rfl,rfl⟩)
   refine aJ ?_;refine T0 (hK _ _ _ ?_);clear hK K;refine aB fun K hK=>?_;have hL: ¬ls.length=0:=by simpa using hb
   clear hb;have hr:rdP ls=(some ⟨n,v,r⟩,[]):=by
    have hh:=hrun.done (by omega);rw[hh,if_neg (by simp[Ds.ms])];rfl
   obtain⟨e1,e2,e3⟩:=hok _ _ hr;have hsz:PoSz ⟨n,v,r⟩:=cI2 hB (by omega) (by rw[hr]);refine dF [64] (bH (fr2:=fin [(2,.ptr 0 0),(7,.ptr 52 0)]) (ob2:=fob [(0,.box 45 (.c (.agg [.str [],.int .i64 0,.slc []]))),(52,.box 100 (.agg [.c (Po.cv ⟨n,v,r⟩),cN 65 W.length 1 0,.c (.bool false)])),(65,.row 3 1 (W.map iC))]) (nx2:=40000) (aL (by omega) (by simp[aY,fin_at,finA_at,upd_at,HV.men,HV.menL,HV.norm,HV.toC,HV.toCL,eB,eC,HO.close,HV.close,HV.closeL,HV.norm,HV.toC,HV.toCL,rbx,aU,aM,gW,sJ,Po.cv,denilL_Pr,CV.denil,CV.denilL]) (by simp[aZ,fob_at,upd_at,none0_at,bV,HO.men,HV.men,HV.menL,HV.norm,HV.toC,HV.toCL,eB,eC,HO.close,HV.close,HV.closeL,HV.norm,HV.toC,HV.toCL,rbx,aU,aM,gW,sJ,Po.cv,denilL_Pr,CV.denil,CV.denilL])) ?_);refine aB fun K hK=>Rg ?_;have F:=aI @aX (aI @aQ @aM);iterate 4 refine SF ?_
   refine HS rfl rfl fun K' hK'=>T6 ?_;refine C1 (bL2 ⟨n,v,r⟩ hsz) ?_;rintro u rfl;refine AX (hK' _ _ ?_);clear hK' K';refine SF ?_;refine T2 (hK _ _ _ ?_);clear hK K;refine aG (b:=!eY ⟨n,v,r⟩) rfl (fun hb=>?_) (fun hb=>?_)
   ·
    have hp:eY ⟨n,v,r⟩=false:=by simpa using hb
    rw[hp]at e1 e3;simp only[Bool.false_eq_true,if_false]at e1 e3;refine aB fun K hK=>Rg ?_;iterate 4 refine S0 ?_
    refine T2 (hK _ _ _ ?_);clear hK K;refine aE (RT Tryz.results33 ?_);exact dO [] po0.cv (.int .i64 0) (.int .i64 1) (by simp[HV.close,HV.closeL,po0,Po.cv,CV.denil,CV.denilL,HV.norm,HV.toC,HV.toCL]) (by rw[e1,e2,e3];exact⟨rfl,rfl,rfl⟩)
   have hp:eY ⟨n,v,r⟩=true:=by simpa using hb
   rw[hp]at e1 e3;simp only[if_true]at e1 e3;refine aJ ?_;refine T0 (hK _ _ _ ?_);clear hK K;refine aB fun K hK=>Rg ?_;iterate 7 refine SF ?_
   refine T2 (hK _ _ _ ?_);clear hK K;refine aE (RT Tryz.results33 ?_);exact dO [] (Po.cv ⟨n,v,r⟩) (.int .i64 0) (.int .i64 0) (by simp[HV.close,HV.closeL,Po.denil,CV.denil,CV.denilL,HV.norm,HV.toC,HV.toCL]) (by rw[e1,e2,e3];exact⟨rfl,rfl,rfl⟩)
  by_cases hL:ls.length=0
  ·
   refine Rg ?_;iterate 17 refine S0 ?_ (e:=fun _ h_=>by simp only[sH,↓sP,sA,tyS,simprocAttr,rbx,aX,aQ,List.length_map,(show((ls.length:Int)==0)=true from by rw[hL];rfl)];exact AX h_)
   refine T4 ?_;exact key true _ _ _ (by simp[hL]) (by simp only[hpN];exact aL (by omega) (by simp[aY,fin_at,finA_at,upd_at,HV.men,HV.menL,HV.norm,HV.toC,HV.toCL,rbx,aU,aM]) (by simp[aZ,fob_at,upd_at,none0_at,bV,HO.men,HV.men,HV.menL,HV.norm,HV.toC,HV.toCL,rbx,aU,aM]))
  by_cases hW0:W.length=0
  ·
   refine Rg ?_;iterate 17 refine S0 ?_ (e:=fun _ h_=>by simp only[sH,↓sP,sA,tyS,simprocAttr,rbx,aX,aQ,List.length_map,(show((ls.length:Int)==0)=false from beq_false_of_ne (by omega)),hW0,aW,aM];exact AX h_)
   refine T4 ?_;exact key (decide ((0:Int)<((0:Nat):Int))) _ _ _ (by simp[hL]) (by simp only[hpN];exact aL (by omega) (by simp[aY,fin_at,finA_at,upd_at,HV.men,HV.menL,HV.norm,HV.toC,HV.toCL,rbx,aU,aM,hW0,aW]) (by simp[aZ,fob_at,upd_at,none0_at,bV,HO.men,HV.men,HV.menL,HV.norm,HV.toC,HV.toCL,rbx,aU,aM,hW0,aW]))
  refine Rg ?_;iterate 17 refine S0 ?_ (e:=fun _ h_=>by simp only[sH,↓sP,sA,tyS,simprocAttr,rbx,aX,aQ,List.length_map,(show((ls.length:Int)==0)=false from beq_false_of_ne (by omega)),bA (show 0≠W.length from Ne.symm hW0),aM,(show 0<W.length by omega),Nat.zero_le,List.take_zero,List.length_nil,List.length_take,List.length_drop,Nat.sub_zero,Nat.zero_min];exact AX h_)
  refine T4 ?_;exact key (decide ((0:Int)<((0:Nat):Int))) _ _ _ (by simp[hL]) (by simp only[hpN];exact aL (by omega) (by simp[aY,fin_at,finA_at,upd_at,HV.men,HV.menL,HV.norm,HV.toC,HV.toCL,rbx,aU,aM,bA (show 0≠W.length from Ne.symm hW0)]) (by simp[aZ,fob_at,upd_at,none0_at,bV,HO.men,HV.men,HV.menL,HV.norm,HV.toC,HV.toCL,rbx,aU,aM,bA (show 0≠W.length from Ne.symm hW0)]))
 obtain⟨⟨q,m,d⟩,rfl⟩:=Option.ne_none_iff_exists'.1 hxn;simp only[Ds.hp,hpS];obtain⟨hi0,hm,hdm,hjt,htl,hct⟩:=hyx q m d rfl;clear hxn;refine aB fun K hK=>Rg ?_;have F:=@List.length_map.{0,0};iterate 4 refine SF ?_
 refine T2 (hK _ _ _ ?_);clear hK K;refine aG (b:=decide ((i:Int)<ls.length)) rfl (fun hb=>?_) (fun hb=>?_)
 ·
  have hlt:i<ls.length:=by simpa using hb
  have hw0:0<ls[i].length:=List.length_pos_iff.2 (hne _ (List.getElem_mem hlt)).1;clear hb;refine aJ ?_;refine T0 (hK _ _ _ ?_);clear hK K;refine aB fun K hK=>?_;refine aN ?_;cases hs:cS ls[i] false ⟨n,v,r++[⟨q.a,q.b,q.c,q.g,q.t⟩],W.take m,d⟩
  ·
   refine aB fun K hK=>Rg ?_;have F:=aI @eS (aI @tU (aI @Int.natCast_nonneg (aI @Int.ofNat_lt (aI hlt (aI @Int.toNat_natCast (aI (nM hlt) (aI @List.length_map.{0,0} (show((i:Int)==0)=false from beq_false_of_ne (by omega)))))))));iterate 7 refine SF ?_
   refine HS rfl rfl fun K' hK'=>T6 ?_;refine fP [52,64,65,66] (aS9 ls[i] hw0 n v r q.a q.b q.c q.g q.t W m d i hm hdm hjt (by omega) (by omega) (by omega) (by omega) hct) rfl (at3 rfl rfl rfl rfl) (by simp) (by simp) ⟨rfl,rfl,rfl,rfl⟩ (by simp[rbx,eU,HO.men,HV.men,HV.menL,HV.menL_append,aU,bN]) (by simp[HV.menL,HV.men]) ?_;rintro u os' ⟨rfl,hos⟩;rw[hs]at hos⊢;obtain rfl:os'=os3 n v r q.a q.b q.c q.g q.t W m d:=hos;rw[up3 (N:=66) rfl rfl rfl rfl,bL9];refine AX (hK' _ _ ?_);clear hK' K';refine SF ?_;refine T2 (hK _ _ _ ?_);clear hK K;refine CT rfl ?_;refine aB fun K hK=>Rg ?_;iterate 5 refine S0 ?_
   refine T2 (hK _ _ _ ?_);clear hK K;refine aE (RT Tryz.results33 ?_);obtain⟨e1,e2,e3⟩:=hno _ (RunM.no hrun hi0 hlt hs);have e4:ls.length-(ls.drop i).length=i:=by rw[List.length_drop];omega
   exact dO [] po0.cv (.int .i64 i) (.int .i64 2) (by simp[HV.close,HV.closeL,po0,Po.cv,CV.denil,CV.denilL,HV.norm,HV.toC,HV.toCL]) (by rw[e1,e2,e3,e4];exact⟨rfl,rfl,rfl⟩)
  refine aB fun K hK=>Rg ?_;have F:=aI @eS (aI @tU (aI @Int.natCast_nonneg (aI @Int.ofNat_lt (aI hlt (aI @Int.toNat_natCast (aI (nM hlt) (aI @List.length_map.{0,0} (show((i:Int)==0)=false from beq_false_of_ne (by omega)))))))));iterate 7 refine SF ?_
  refine HS rfl rfl fun K' hK'=>T6 ?_;refine fP [52,64,65,66] (aS9 ls[i] hw0 n v r q.a q.b q.c q.g q.t W m d i hm hdm hjt (by omega) (by omega) (by omega) (by omega) hct) rfl (at3 rfl rfl rfl rfl) (by simp) (by simp) ⟨rfl,rfl,rfl,rfl⟩ (by simp[rbx,eU,HO.men,HV.men,HV.menL,HV.menL_append,aU,bN]) (by simp[HV.menL,HV.men]) ?_;rintro u os' ⟨rfl,hos⟩;obtain⟨y,hs⟩: ∃y,cS ls[i] false ⟨n,v,r++[⟨q.a,q.b,q.c,q.g,q.t⟩],W.take m,d⟩=some y:=⟨_,hs⟩;rw[hs]at hos⊢;obtain⟨t',W',m',d',hyy,hos,h1,h2,h3,h4,h5⟩:=hos;obtain⟨Q,hQ⟩: ∃Q:Pr,Q=⟨q.a,q.b,q.c,q.g,t'⟩:=⟨_,rfl⟩;obtain rfl:os'=os3 n v r Q.a Q.b Q.c Q.g Q.t W' m' d':=by rw[hQ];exact hos
  have hQt:Q.t=t':=by rw[hQ]
  rw[←hQ]at hyy;rw[←hQt]at h3 h4 h5;clear hQ hQt hos;rw[up3 (N:=66) rfl rfl rfl rfl,bL9];refine AX (hK' _ _ ?_);clear hK' K';refine SF ?_;refine T2 (hK _ _ _ ?_);clear hK K;refine CF rfl ?_;refine aJ ?_;refine T0 (hK _ _ _ ?_);clear hK K;by_cases hfin:d'=false∧m'=0
  ·
   obtain⟨rfl,rfl⟩:=hfin;refine dF [66] (bA8 64 (r.map Pr.cv++[Q.cv]) rfl (by rw[qK,pG];exact bE9 (by simp[HV.closeL,HV.close,HV.norm,HV.toC,HV.toCL,CV.denil,fI,fob_at,upd_at,Pr.cv,denilL_Nd]) r) (bH (fr2:=fin [(2,.ptr 0 0),(5,.c (.slc (ls.map lsC))),(7,.ptr 52 0),(8,.c (.int .i64 i))]) (ob2:=fob (hpN n v (r++[Q]) W')) (nx2:=20200) (by simp only[hpN];exact aL (by omega) (by simp[aY,fin_at,finA_at,upd_at,HV.men,HV.menL,HV.norm,HV.toC,HV.toCL,eB,eC,HO.close,HV.close,HV.closeL,HV.norm,HV.toC,HV.toCL,CV.denil,CV.denilL,aT,rbx,aU,aM,gW,sJ]) (by simp[aZ,fob_at,upd_at,none0_at,bV,HO.men,HV.men,HV.menL,HV.norm,HV.toC,HV.toCL,eB,eC,HO.close,HV.close,HV.closeL,HV.norm,HV.toC,HV.toCL,CV.denil,CV.denilL,aT,rbx,aU,aM,gW,sJ])) ?_));simp only[hpN];refine aK (by kernel_rfl) ?_;refine TQ (show IntKind.i64.wrap ((i:Int)+1)=((i+1:Nat):Int)from by rw[IntWalk.i64_in _ (by omega)];rfl) ?_;refine⟨⟨⟨i+1,n,v,r++[Q],W',none⟩,⟨hlt,by simp only[List.length_append,List.length_singleton];omega,by simp only;omega,by have h:=RunM.next hrun hi0 hlt hs;rw[hyy]at h;exact h,fun q m d h=>by cases h⟩⟩,?_,?_⟩
   · simp only[Ds.hp,hpN];exact aL (by omega) (by simp[aY,fin_at,finA_at,upd_at,HV.men,HV.menL,HV.norm,HV.toC,HV.toCL,rbx,aU]) (by simp[aZ,fob_at,upd_at,none0_at,bV,HO.men,HV.men,HV.menL,HV.norm,HV.toC,HV.toCL,rbx,aU])
   show ls.length-(i+1)<ls.length-i;omega
  refine aK (by kernel_rfl) ?_;refine TQ (show IntKind.i64.wrap ((i:Int)+1)=((i+1:Nat):Int)from by rw[IntWalk.i64_in _ (by omega)];rfl) ?_;refine⟨⟨⟨i+1,n,v,r,W',some (Q,m',d')⟩,⟨hlt,by simp only;omega,by simp only;omega,by have h:=RunM.next hrun hi0 hlt hs;rw[hyy]at h;exact h,fun q m d h=>by
   cases h;refine⟨by simp only;omega,h1,?_,h4,by simp only;omega,fun z hz=>?_⟩
   ·
    cases d' with
    |true=>exact .inl rfl
    |false=>exact .inr (Nat.pos_of_ne_zero fun e=>hfin ⟨rfl,e⟩)
   have:=h5 z hz;simp only;omega⟩⟩,?_,?_⟩
  · simp only[Ds.hp,hpS];exact aL (by omega) (by simp[aY,fin_at,finA_at,upd_at,HV.men,HV.menL,HV.norm,HV.toC,HV.toCL,HV.menL_append,bN,rbx,aU]) (by simp[aZ,fob_at,upd_at,none0_at,bV,HO.men,HV.men,HV.menL,HV.norm,HV.toC,HV.toCL,HV.menL_append,bN,rbx,aU])
  show ls.length-(i+1)<ls.length-i;omega
 obtain rfl:i=ls.length:=by simp at hb;omega
 clear hb;refine bI (T3 ?_);clear hK K;refine AX (hK _ _ _ ?_);clear hK K;refine aB fun K hK=>?_;refine aB fun K hK=>?_;have key: ∀(b0:Bool) fr ob nx,b0=true→Fits 0 fr ob (fin [(2,.ptr 0 0),(5,.c (.slc (ls.map lsC))),(7,.ptr 52 0),(53,.c (.bool b0))]) (fob [(0,.box 45 (.c (.agg [.str [],.int .i64 0,.slc []])))]) 30000→K fr ob nx:=by
  rintro b0 fr ob nx rfl hf;refine hK _ _ _ (bH hf ?_);clear hf hK K;refine CT rfl ?_;refine aB fun K hK=>Rg ?_;iterate 6 refine SF ?_
  refine T2 (hK _ _ _ ?_);clear hK K;refine aE (RT Tryz.results33 ?_);have hr:rdP ls=(none,[]):=by
   have hh:=hrun.done (by omega);rw[hh,if_pos];rcases hdm with h|h
   · exact .inl h
   exact .inr (aI8 h hm)
  obtain⟨e1,e2,e3⟩:=hno _ hr;exact dO [] po0.cv (.int .i64 ls.length) (.int .i64 2) (by simp[HV.close,HV.closeL,po0,Po.cv,CV.denil,CV.denilL,HV.norm,HV.toC,HV.toCL]) (by rw[e1,e2,e3];exact⟨rfl,rfl,rfl⟩)
 by_cases hdd:d=true
 ·
  refine Rg ?_;iterate 17 refine S0 ?_ (e:=fun _ h_=>by simp only[sH,↓sP,sA,tyS,simprocAttr,rbx,aX,aQ,List.length_map,(show((ls.length:Int)==0)=false from beq_false_of_ne (by omega)),hdd];exact AX h_)
  refine T4 ?_;exact key true _ _ _ rfl (aL (by omega) (by simp[aY,fin_at,finA_at,upd_at,HV.men,HV.menL,HV.norm,HV.toC,HV.toCL,rbx]) (by simp[aZ,fob_at,upd_at,none0_at,bV,HO.men,HV.men,HV.menL,HV.norm,HV.toC,HV.toCL,rbx]))
 by_cases hmW:m=W.length
 ·
  have hd0:d=false:=by simpa using hdd
  have hm0:0<m:=hdm.resolve_left hdd;refine Rg ?_;iterate 17 refine S0 ?_ (e:=fun _ h_=>by simp only[sH,↓sP,sA,tyS,simprocAttr,rbx,aX,aQ,List.length_map,(show((ls.length:Int)==0)=false from beq_false_of_ne (by omega)),hd0,hmW,aW,aM];exact AX h_)
  refine T4 ?_;exact key (decide ((0:Int)<(W.length:Int))) _ _ _ (by simp;omega) (aL (by omega) (by simp[aY,fin_at,finA_at,upd_at,HV.men,HV.menL,HV.norm,HV.toC,HV.toCL,rbx]) (by simp[aZ,fob_at,upd_at,none0_at,bV,HO.men,HV.men,HV.menL,HV.norm,HV.toC,HV.toCL,rbx]))
 have hd0:d=false:=by simpa using hdd
 have hm0:0<m:=hdm.resolve_left hdd;refine Rg ?_;iterate 17 refine S0 ?_ (e:=fun _ h_=>by simp only[sH,↓sP,sA,tyS,simprocAttr,rbx,aX,aQ,List.length_map,(show((ls.length:Int)==0)=false from beq_false_of_ne (by omega)),hd0,bA hmW,aM,(show 0<W.length by omega),hm,Nat.zero_le,List.length_take,List.length_drop,Nat.sub_zero,Nat.min_eq_left hm];exact AX h_)
 refine T4 ?_;exact key (decide ((0:Int)<(m:Int))) _ _ _ (by simp;omega) (aL (by omega) (by simp[aY,fin_at,finA_at,upd_at,HV.men,HV.menL,HV.norm,HV.toC,HV.toCL,rbx]) (by simp[aZ,fob_at,upd_at,none0_at,bV,HO.men,HV.men,HV.menL,HV.norm,HV.toC,HV.toCL,rbx]))
instance :DecidableEq Nd:=fun a b=>decidable_of_iff _ (wU a b)
theorem bY5 (a b:List Nd)(ha:a.length<2^40):cG Tryz.prog 66 [.slc (a.map Nd.cv),.slc (b.map Nd.cv)] (fun v=>v= .bool (decide (a=b))):=by
 refine FW Tryz.func66 ?_;refine R0 ?_;refine aB fun K hK=>?_;refine aB fun K hK=>Rg ?_;iterate 5 refine S0 ?_
 refine T2 (hK _ _ _ ?_);clear hK K;refine aG (b:=!((a.length:Int)==(b.length:Int))) rfl (fun hb=>?_) (fun hb=>?_)
 ·
  refine R0 ?_;refine aE (RT Tryz.results66 ?_);have hne:a≠b:=by rintro rfl;simp at hb
  exact aH [] (.bool false) rfl (by rw[decide_eq_false hne])
 have hlen0:(a.length:Int)=b.length:=by simpa using hb
 have hlen:a.length=b.length:=by omega
 clear hb;refine aJ ?_;refine T0 (hK _ _ _ ?_);clear hK K;refine aB fun K hK=>?_;refine R0 ?_;refine aN ?_;refine bS (α:={i:Nat//i≤a.length∧a.take i=b.take i}) (fun i=>(fin [(0,.c (.slc (a.map Nd.cv))),(1,.c (.slc (b.map Nd.cv))),(5,.c (.int .i64 i.1))],fob [])) 100 (fun i=>a.length-i.1) ⟨0,by omega,by simp⟩ (fF) ?_;rintro⟨i,hi,hpre⟩;refine aB fun K hK=>?_;refine aB fun K hK=>Rg ?_;iterate 4 refine S0 ?_
 refine T2 (hK _ _ _ ?_);clear hK K;refine aG (b:=decide ((i:Int)<a.length)) rfl (fun hb=>?_) (fun hb=>?_)
 ·
  have hlt:i<a.length:=by simpa using hb
  have hlt2:i<b.length:=by omega
  clear hb;refine aJ ?_;refine T0 (hK _ _ _ ?_);clear hK K;refine aB fun K hK=>?_;refine aN ?_;refine aB fun K hK=>QR ?_;have F:=aI @Int.natCast_nonneg (aI @Int.ofNat_lt (aI hlt (aI (nM hlt) (aI hlt2 (aI (nM hlt2) @cT5)))));iterate 9 refine SF ?_
  refine T2 (hK _ _ _ ?_);clear hK K;refine aG (b:=!aV6 a[i] b[i]) rfl (fun hb=>?_) (fun hb=>?_)
  ·
   refine R0 ?_;refine aE (RT Tryz.results66 ?_);have hne:a≠b:=by rintro rfl;simp[bH0]at hb
   exact aH [] (.bool false) rfl (by rw[decide_eq_false hne])
  refine aJ ?_;refine T0 (hK _ _ _ ?_);clear hK K;refine aK (by kernel_rfl) ?_;simp only[↓sP,sA,tyS,simprocAttr,cQ ((i:Int)+1) (by omega)];have hab:a[i]=b[i]:=(wU _ _).1 (by simpa using hb);refine⟨⟨i+1,hlt,by rw[List.take_succ_eq_append_getElem hlt,List.take_succ_eq_append_getElem hlt2,hpre,hab]⟩,fF,?_⟩;show a.length-(i+1)<a.length-i;omega
 refine bI (T3 ?_);clear hK K;refine AX (hK _ _ _ ?_);clear hK K;refine R0 ?_;refine aE (RT Tryz.results66 ?_);have hei:i=a.length:=by simp only[decide_eq_false_iff_not]at hb;omega
 subst hei;have hab:a=b:=by rw[List.take_length]at hpre;rw[hpre,hlen,List.take_length]
 exact aH [] (.bool true) rfl (by rw[decide_eq_true hab])
def zA (x y:Pr):Bool:=!(x.a==y.a)||(!(x.b==y.b)||(!(x.c==y.c)||((x.g !=y.g)||!decide (x.t=y.t))))
theorem yE (x y:Pr):zA x y=false↔x=y:=by
 obtain⟨x1,x2,x3,x4,x5⟩:=x;obtain⟨y1,y2,y3,y4,y5⟩:=y;simp[zA,Pr.mk.injEq]
instance :DecidableEq Pr:=fun a b=>decidable_of_iff _ (yE a b)
def vF (x y:Po):Bool:=!(x.n==y.n)||((x.v !=y.v)||((x.r.length:Int) !=(y.r.length:Int)))
theorem bF0 {x y:Po}(h:vF x y=true):x≠y:=by
 rintro rfl;simp[vF]at h
theorem aT2 {x y:Po}(h:vF x y=false)(h2:x.r=y.r):x=y:=by
 obtain⟨x1,x2,x3⟩:=x;obtain⟨y1,y2,y3⟩:=y;simp[vF]at h;simp at h2;simp[h,h2]
instance :DecidableEq Po:=fun a b=>if h:vF a b=true then .isFalse (bF0 h)else if h2:a.r=b.r then .isTrue (aT2 (by simpa using h) h2)else .isFalse fun e=>h2 (by rw[e])
theorem cG0 (p q:Po)(hr:p.r.length<2^40)(ht: ∀r∈p.r,r.t.length<2^40):cG Tryz.prog 34 [p.cv,q.cv] (fun v=>v= .bool (decide (p=q))):=by
 refine FW Tryz.func34 ?_;refine R0 ?_;refine aB fun K hK=>?_;refine aB fun K hK=>?_;have key: ∀(b:Bool) fr ob nx,b=vF p q→Fits 0 fr ob (fin [(2,.ptr 0 0),(3,.ptr 4 0),(28,.c (.bool b))]) (fob [(0,.box 45 (.c p.cv)),(4,.box 45 (.c q.cv))]) 600→K fr ob nx:=by
  rintro b fr ob nx rfl hf;refine hK _ _ _ (bH hf ?_);clear hf hK K;refine aG (b:=vF p q) rfl (fun hb=>?_) (fun hb=>?_)
  · refine R0 ?_;refine aE (RT Tryz.results34 ?_);exact aH [] (.bool false) rfl (by rw[decide_eq_false (bF0 hb)])
  have hne:=hb;have hlen:p.r.length=q.r.length:=by
   simp[vF]at hb;omega
  clear hb;refine aJ ?_;refine T0 (hK _ _ _ ?_);clear hK K;refine aB fun K hK=>?_;refine R0 ?_;refine aN ?_;refine bS (α:={i:Nat//i≤p.r.length∧p.r.take i=q.r.take i}) (fun i=>(fin [(2,.ptr 0 0),(3,.ptr 4 0),(5,.c (.int .i64 i.1))],fob [(0,.box 45 (.c p.cv)),(4,.box 45 (.c q.cv))])) 1000 (fun i=>p.r.length-i.1) ⟨0,by omega,by simp⟩ (fF) ?_;rintro⟨i,hi,hpre⟩;refine aB fun K hK=>?_;refine aB fun K hK=>Rg ?_;iterate 5 refine S0 ?_
  refine T2 (hK _ _ _ ?_);clear hK K;refine aG (b:=decide ((i:Int)<p.r.length)) rfl (fun hb=>?_) (fun hb=>?_)
  ·
   have hlt:i<p.r.length:=by simpa using hb
   have hlt2:i<q.r.length:=by omega
   clear hb;refine aJ ?_;refine T0 (hK _ _ _ ?_);clear hK K;refine aB fun K hK=>?_;refine aN ?_;refine aB fun K hK=>DW [(0,[],[]),(1,[],[]),(2,[],[]),(3,[],[]),(4,[],[]),(5,[],[]),(6,[],[]),(7,[],[]),(8,[],[]),(9,[],[]),(10,[],[]),(11,[10],[]),(12,[],[5,6,7,8,9]),(13,[],[])] [0,1,0,7,15,0,32,0,224,480,0,0,3103,8191] ?_;have F:=aI @Int.natCast_nonneg (aI @Int.ofNat_lt (aI hlt (aI (nM hlt) (aI hlt2 (nM hlt2)))));iterate 14 refine WF ?_
   refine T2 (hK _ _ _ ?_);clear hK K;refine aB fun K hK=>?_;have key: ∀(b:Bool) fr ob nx,b=zA p.r[i] q.r[i]→Fits 0 fr ob (fin [(2,.ptr 0 0),(3,.ptr 4 0),(5,.c (.int .i64 i)),(79,.c (.bool b))]) (fob [(0,.box 45 (.c p.cv)),(4,.box 45 (.c q.cv))]) 2000→K fr ob nx:=by
    rintro b fr ob nx rfl hf;refine hK _ _ _ (bH hf ?_);clear hf hK K;refine aG (b:=zA p.r[i] q.r[i]) rfl (fun hb=>?_) (fun hb=>?_)
    ·
     refine R0 ?_;refine aE (RT Tryz.results34 ?_);have hne:p≠q:=by
      rintro rfl;rw[(yE _ _).2 rfl]at hb;cases hb
     exact aH [] (.bool false) rfl (by rw[decide_eq_false hne])
    refine aJ ?_;refine T0 (hK _ _ _ ?_);clear hK K;refine aK (by kernel_rfl) ?_;simp only[↓sP,sA,tyS,simprocAttr,cQ ((i:Int)+1) (by omega)];have hab:p.r[i]=q.r[i]:=(yE _ _).1 hb;refine⟨⟨i+1,hlt,by rw[List.take_succ_eq_append_getElem hlt,List.take_succ_eq_append_getElem hlt2,hpre,hab]⟩,fF,?_⟩;show p.r.length-(i+1)<p.r.length-i;omega
   refine Rg ?_;iterate 6 refine S0 ?_
   refine aD 50 rfl (fun h7_50=>?_) (fun h7_50=>?_)
   ·
    have F:=h7_50;iterate 28 refine SF ?_
    refine T4 ?_;exact key true _ _ _ (by simp only[zA,h7_50,Bool.not_true,Bool.not_false,Bool.true_or,Bool.false_or]) (fF)
   have F:=h7_50;iterate 7 refine SF ?_
   refine aD 56 rfl (fun h7_56=>?_) (fun h7_56=>?_)
   ·
    have F:=aI h7_50 h7_56;iterate 21 refine SF ?_
    refine T4 ?_;exact key true _ _ _ (by simp only[zA,h7_50,h7_56,Bool.not_true,Bool.not_false,Bool.true_or,Bool.false_or]) (fF)
   have F:=aI h7_50 h7_56;iterate 7 refine SF ?_
   refine aD 63 rfl (fun h7_63=>?_) (fun h7_63=>?_)
   ·
    have F:=aI h7_50 (aI h7_56 h7_63);iterate 14 refine SF ?_
    refine T4 ?_;exact key true _ _ _ (by simp only[zA,h7_50,h7_56,h7_63,Bool.not_true,Bool.not_false,Bool.true_or,Bool.false_or]) (fF)
   have F:=aI h7_50 (aI h7_56 h7_63);iterate 7 refine SF ?_
   refine aD 70 rfl (fun h7_70=>?_) (fun h7_70=>?_)
   ·
    have F:=aI h7_50 (aI h7_56 (aI h7_63 h7_70));iterate 7 refine SF ?_
    refine T4 ?_;exact key true _ _ _ (by simp only[zA,h7_50,h7_56,h7_63,h7_70,Bool.not_true,Bool.not_false,Bool.true_or,Bool.false_or]) (fF)
   have F:=aI h7_50 (aI h7_56 (aI h7_63 h7_70));iterate 4 refine SF ?_
   refine aP (g:=some (72,false)) rfl rfl fun K' hK'=>T6 ?_;refine C2 (bY5 p.r[i].t q.r[i].t (ht _ (List.getElem_mem hlt))) ?_;rintro u rfl;refine AX (hK' _ _ ?_);clear hK' K';iterate 2 refine SF ?_
   refine aD 77 rfl (fun h7_77=>?_) (fun h7_77=>?_)
   · simp only[h7_77];refine T4 ?_;exact key false _ _ _ (by simp only[zA,h7_50,h7_56,h7_63,h7_70,h7_77,Bool.not_true,Bool.not_false,Bool.true_or,Bool.false_or]) (fF)
   simp only[h7_77];refine T4 ?_;exact key true _ _ _ (by simp only[zA,h7_50,h7_56,h7_63,h7_70,h7_77,Bool.not_true,Bool.not_false,Bool.true_or,Bool.false_or]) (fF)
  refine bI (T3 ?_);clear hK K;refine AX (hK _ _ _ ?_);clear hK K;refine R0 ?_;refine aE (RT Tryz.results34 ?_);have hei:i=p.r.length:=by simp only[decide_eq_false_iff_not]at hb;omega
  subst hei;have hab:p.r=q.r:=by rw[List.take_length]at hpre;rw[hpre,hlen,List.take_length]
  exact aH [] (.bool true) rfl (by rw[decide_eq_true (aT2 hne hab)])
 refine Rg ?_;iterate 6 refine S0 ?_
 refine aD 12 rfl (fun h1_12=>?_) (fun h1_12=>?_)
 ·
  have F:=h1_12;iterate 15 refine SF ?_
  refine T4 ?_;exact key true _ _ _ (by simp only[vF,h1_12,Bool.true_or,Bool.false_or]) (fF)
 have F:=h1_12;iterate 7 refine SF ?_
 refine aD 18 rfl (fun h1_18=>?_) (fun h1_18=>?_)
 ·
  have F:=aI h1_12 h1_18;iterate 8 refine SF ?_
  refine T4 ?_;exact key true _ _ _ (by simp only[vF,h1_12,h1_18,Bool.true_or,Bool.false_or]) (fF)
 have F:=aI h1_12 h1_18;iterate 8 refine SF ?_
 refine aD 27 rfl (fun h1_27=>?_) (fun h1_27=>?_)
 · simp only[h1_27];refine T4 ?_;exact key true _ _ _ (by simp only[vF,h1_12,h1_18,h1_27,Bool.true_or,Bool.false_or]) (fF)
 simp only[h1_27];refine T4 ?_;exact key false _ _ _ (by simp only[vF,h1_12,h1_18,h1_27,Bool.true_or,Bool.false_or]) (fF)
def rdr (ls:List (List aF))(a:Nat):CV:= .agg [.slc (ls.map lsC),.int .i64 a]
theorem aD7 (ls:List (List aF))(a k:Nat)(w:aF)(hk:1≤k):bO9 Tryz.prog 88 94 (rdr ls a) [.str w,.int .i64 k] (fun u v'=>u= .bool (isV ls a w k)∧v'=rdr ls a):=by
 refine cI Tryz.func88 rfl (by kernel_rfl) (eI _ _ _) (Nat.le_of_ble_eq_true rfl) ?_;refine R0 ?_;refine aB fun K hK=>QR ?_;iterate 11 refine S0 ?_ (e:=fun _ h_=>by simp only[sH,↓sP,sA,tyS,simprocAttr,rdr,Int.natCast_nonneg];exact AX h_)
 refine aD 16 rfl (fun h1_16=>?_) (fun h1_16=>?_)
 ·
  iterate 8 refine S0 ?_ (e:=fun _ h_=>by simp only[sH,↓sP,sA,tyS,simprocAttr,rdr,Int.natCast_nonneg,h1_16];exact AX h_)
  refine aP (g:=some (17,true)) rfl rfl fun K' hK'=>?_;simp only[sH,↓sP,sA,tyS,simprocAttr,rdr,Int.natCast_nonneg,h1_16];have hlt:a<ls.length:=by simpa using h1_16
  simp only[↓sP,sA,tyS,simprocAttr,Int.natCast_nonneg,Int.ofNat_lt,hlt,bR hlt,lsC];refine AX (hK' _ _ ?_);clear hK' K';iterate 6 refine S0 ?_ (e:=fun _ h_=>by simp only[sH,↓sP,sA,tyS,simprocAttr,rdr,Int.natCast_nonneg,h1_16];exact AX h_)
  refine aD 30 rfl (fun h1_30=>?_) (fun h1_30=>?_)
  ·
   iterate 8 refine S0 ?_ (e:=fun _ h_=>by simp only[sH,↓sP,sA,tyS,simprocAttr,rdr,Int.natCast_nonneg,h1_16,h1_30];exact AX h_)
   refine aP (g:=some (32,true)) rfl rfl fun K' hK'=>?_;simp only[sH,↓sP,sA,tyS,simprocAttr,rdr,Int.natCast_nonneg,h1_16,h1_30];have hlt:a<ls.length:=by simpa using h1_16
   have h0:0<ls[a].length:=by simp at h1_30;omega
   simp only[↓sP,sA,tyS,simprocAttr,Int.natCast_nonneg,Int.ofNat_lt,hlt,bR hlt,lsC];refine AX (hK' _ _ ?_);clear hK' K';refine S0 ?_ (e:=fun _ h_=>by simp only[sH,↓sP,sA,tyS,simprocAttr,rdr,Int.natCast_nonneg,h1_16,h1_30];exact AX h_);refine aP (g:=some (32,true)) rfl rfl fun K' hK'=>?_;simp only[sH,↓sP,sA,tyS,simprocAttr,rdr,Int.natCast_nonneg,h1_16,h1_30];have hlt:a<ls.length:=by simpa using h1_16
   have h0:0<ls[a].length:=by simp at h1_30;omega
   simp only[↓sP,sA,tyS,simprocAttr,Int.natCast_pos,h0,bR h0];refine AX (hK' _ _ ?_);clear hK' K';iterate 5 refine S0 ?_ (e:=fun _ h_=>by simp only[sH,↓sP,sA,tyS,simprocAttr,rdr,Int.natCast_nonneg,h1_16,h1_30];exact AX h_)
   refine T2 (hK _ _ _ ?_);clear hK K;refine aE (RT Tryz.results88 ?_);have hlt:a<ls.length:=by simpa using h1_16
   have h30:ls[a].length=k:=by simpa[Int.ofNat_inj]using h1_30
   refine iD [] (.bool _) (rdr ls a) rfl rfl (by simp[HV.close,HV.closeL,rdr,CV.denil,CV.denilL,aT,HV.norm,HV.toC,HV.toCL]) (by simp) ⟨?_,rfl⟩;rw[jC hlt,h30];simp[wd,show 0<ls[a].length by omega]
  iterate 16 refine S0 ?_ (e:=fun _ h_=>by simp only[sH,↓sP,sA,tyS,simprocAttr,rdr,Int.natCast_nonneg,h1_16,h1_30];exact AX h_)
  refine T2 (hK _ _ _ ?_);clear hK K;refine aE (RT Tryz.results88 ?_);have hlt:a<ls.length:=by simpa using h1_16
  have h30: ¬ls[a].length=k:=by simpa[Int.ofNat_inj]using h1_30
  refine iD [] (.bool false) (rdr ls a) rfl rfl (by simp[HV.close,HV.closeL,rdr,CV.denil,CV.denilL,aT,HV.norm,HV.toC,HV.toCL]) (by simp) ⟨?_,rfl⟩;rw[jC hlt];simp[h30]
 iterate 31 refine S0 ?_ (e:=fun _ h_=>by simp only[sH,↓sP,sA,tyS,simprocAttr,rdr,Int.natCast_nonneg,h1_16];exact AX h_)
 refine T2 (hK _ _ _ ?_);clear hK K;refine aE (RT Tryz.results88 ?_);have hlt: ¬a<ls.length:=by simpa using h1_16
 refine iD [] (.bool false) (rdr ls a) rfl rfl (by simp[HV.close,HV.closeL,rdr,CV.denil,CV.denilL,aT,HV.norm,HV.toC,HV.toCL]) (by simp) ⟨?_,rfl⟩;rw[aH6 hlt]
theorem lX (ls:List (List aF))(a j:Nat)(ha:a<ls.length)(hj:j<ls[a].length):uL Tryz.prog 89 94 (rdr ls a) [.int .i64 j] (fun u x v'=>u= .int .i64 ((bL (wd ls[a] j)).getD 0)∧x= .bool (bL (wd ls[a] j)).isSome∧v'=rdr ls a):=by
 refine cI Tryz.func89 rfl (by kernel_rfl) (eI _ _ _) (Nat.le_of_ble_eq_true rfl) ?_;refine R0 ?_;refine aB fun K hK=>DW [(0,[],[]),(1,[],[]),(2,[],[]),(3,[],[]),(4,[],[]),(5,[],[]),(6,[],[]),(7,[],[]),(8,[],[]),(9,[],[]),(10,[],[]),(11,[],[]),(12,[],[]),(13,[],[]),(14,[],[]),(15,[],[]),(16,[],[]),(17,[],[])] [0,1,3,7,0,16,48,112,255,511,0,2047,4095,8191,16383,16383,65535,131071] ?_;iterate 13 refine W0 ?_ (e:=fun _ h_=>by simp only[sH,↓sP,sA,tyS,simprocAttr,rdr,Int.natCast_nonneg,Int.ofNat_lt,ha,bR ha,lsC,hj,bR hj];exact AX h_)
 refine cX (g:=none) rfl rfl fun K' hK'=>?_;simp only[sH,↓sP,sA,tyS,simprocAttr,rdr,Int.natCast_nonneg,Int.ofNat_lt,ha,bR ha,lsC,hj,bR hj];refine D1 (cF1 ls[a][j]) ?_;rintro u v ⟨rfl,rfl⟩;refine AX (hK' _ _ ?_);clear hK' K';iterate 4 refine W0 ?_ (e:=fun _ h_=>by simp only[sH,↓sP,sA,tyS,simprocAttr,rdr,Int.natCast_nonneg,Int.ofNat_lt,ha,bR ha,lsC,hj,bR hj];exact AX h_)
 refine T2 (hK _ _ _ ?_);clear hK K;refine aE (RT Tryz.results89 ?_);exact cH [] (.int .i64 _) (.bool _) (rdr ls a) rfl rfl (by simp[HV.close,HV.closeL,rdr,CV.denil,CV.denilL,aT,HV.norm,HV.toC,HV.toCL,lsC]) (by simp) ⟨by simp[wd,hj],by simp[wd,hj],rfl⟩
theorem oI (ls:List (List aF))(a:Nat)(w:aF)(ha:ls.length<2^40):bO9 Tryz.prog 130 94 (rdr ls a) [.str w,.slc []] (fun u v'=>u= .bool (isV ls a w 1)∧v'=rdr ls (if isV ls a w 1 then a+1 else a)):=by
 refine cI Tryz.func130 rfl (by kernel_rfl) (eI _ _ _) (Nat.le_of_ble_eq_true rfl) ?_;refine R0 ?_;refine aB fun K hK=>?_;refine aB fun K hK=>Rg ?_;iterate 5 refine S0 ?_
 refine HS rfl rfl fun K' hK'=>T5 ?_;refine dG (args:=[_,_]) (aD7 ls a 1 w (by omega)) rfl (by simp) ⟨rfl,rfl,rfl,rfl⟩ ?_;rintro u v' ⟨rfl,rfl⟩;refine AX (hK' _ _ ?_);clear hK' K';refine S0 ?_;refine T2 (hK _ _ _ ?_);clear hK K;refine aG (b:=!isV ls a w 1) rfl (fun hb=>?_) (fun hb=>?_)
 ·
  refine R0 ?_;refine aE (RT Tryz.results130 ?_);have hv:isV ls a w 1=false:=by simpa using hb
  refine iD [] (.bool false) (rdr ls a) rfl rfl (by simp[HV.close,HV.closeL,rdr,CV.denil,CV.denilL,aT,HV.norm,HV.toC,HV.toCL]) (by simp) ⟨by rw[hv],by rw[hv];rfl⟩
 refine aJ ?_;refine T0 (hK _ _ _ ?_);clear hK K;refine aB fun K hK=>?_;have hv:isV ls a w 1=true:=by simpa using hb
 obtain⟨hl,hl1,hl2⟩:=gN hv;rw[hv];clear hb;refine R0 ?_;refine aN ?_;refine bS (α:={i:Nat//i=0}) (fun i=>(fin [(0,.ptr 0 0),(18,.c (.slc [])),(19,.c (.int .i64 0)),(20,.c (.int .i64 0))],fob [(0,.box 94 (.c (rdr ls a)))])) 100 (fun i=>0) ⟨0,rfl⟩ (fF) ?_;rintro⟨i,hi⟩;refine R0 ?_;refine aB fun K hK=>?_;refine CF rfl ?_;refine bI (T3 ?_);clear hK K;refine AX (hK _ _ _ ?_);clear hK K;have hw:IntKind.i64.wrap ((a:Int)+1)=((a+1:Nat):Int):=IntWalk.i64_in _ (by omega);refine aB fun K hK=>Rg ?_;iterate 8 refine S0 ?_ (e:=fun _ h_=>by simp only[sH,↓sP,sA,tyS,simprocAttr,rdr,hw];exact AX h_)
 refine T2 (hK _ _ _ ?_);clear hK K;refine R0 ?_;refine aE (RT Tryz.results130 ?_);refine iD [] (.bool true) (rdr ls (a+1)) rfl rfl (by simp[HV.close,HV.closeL,rdr,CV.denil,CV.denilL,aT,HV.norm,HV.toC,HV.toCL]) (by simp) ⟨by rw[hv],by rw[hv];rfl⟩
theorem cQ5 (ls:List (List aF))(a:Nat)(x:Int):lst [.box 94 (.c (rdr ls a)),.hrow 176 1 [.ptr 2 0],.box 2 (.c (.int .i64 x))]=fob [(0,.box 94 (.c (rdr ls a))),(1,.hrow 176 1 [.ptr 2 0]),(2,.box 2 (.c (.int .i64 x)))]:=by
 funext i
 match i with
 |0=>rfl
 |1=>rfl
 |2=>rfl
 |i+3=>simp[lst,fob,upd]
theorem bY6 (ls:List (List aF))(a:Nat)(w:aF)(x:Int)(ha:ls.length<2^40):
  HGe Tryz.prog 130 [.ptr 0 0,.c (.str w),.own 1 1] [.box 94 (.c (rdr ls a)),.hrow 176 1 [.ptr 2 0],.box 2 (.c (.int .i64 x))]
   (fun r os'=>r= .c (.bool (gM ls a w).isSome)∧os'=[.box 94 (.c (rdr ls (if(gM ls a w).isSome then a+1 else a))),.hrow 176 1 [.ptr 2 0],.box 2 (.c (.int .i64 ((gM ls a w).getD x)))]):=by
 refine cI (args:=[.ptr 0 0,.c (.str w),.own 1 1]) Tryz.func130 rfl (by kernel_rfl) (fZ rfl (by simp[eU,HO.men,HV.men,HV.menL]) (by simp[HV.menL,HV.men])) (Nat.le_of_ble_eq_true rfl) ?_;show Hw _ _ 3 _ _ _ (lst _) 3;rw[cQ5];refine R0 ?_;refine aB fun K hK=>?_;refine aB fun K hK=>bX (by kernel_rfl) ?_;simp only[sR,simprocAttr];iterate 3 refine SG0 ?_
 refine cE (g:=none) rfl rfl fun K' hK'=>?_;simp only[sN,↓hopH.eq_def,sH,↓sP,sA,tyS,simprocAttr];refine AX (hK' _ _ ?_);clear hK' K';refine SG0 ?_;refine bZ (g:=none) rfl rfl fun K' hK'=>T5 ?_;refine dG (args:=[_,_]) (aD7 ls a 2 w (by omega)) rfl (by simp) ⟨rfl,rfl,rfl,rfl⟩ ?_;rintro u v' ⟨rfl,rfl⟩;refine AX (hK' _ _ ?_);clear hK' K';refine SG0 ?_;refine T2 (hK _ _ _ ?_);clear hK K;refine aG (b:=!isV ls a w 2) rfl (fun hb=>?_) (fun hb=>?_)
 ·
  refine R0 ?_;refine aE (RT Tryz.results130 ?_);have hv:isV ls a w 2=false:=by simpa using hb
  rw[cE3 hv];exact eO [] [] (.c (.bool false)) [.box 94 (.c (rdr ls a)),.hrow 176 1 [.ptr 2 0],.box 2 (.c (.int .i64 x))] rfl (by simp[HV.men]) (⟨⟨by simp[HO.men,HV.men],by simp,_,rfl,by simp[HO.close,HV.close,HV.closeL,HO.ren,HV.ren,HV.renL,tau,CV.denil,HV.norm,fI,upd_at,fob_at,HV.toC,HV.toCL,rdr,CV.denilL,aT]⟩,⟨by simp[HO.men,HV.men,HV.menL],by simp,_,rfl,by simp[HO.close,HV.close,HV.closeL,HO.ren,HV.ren,HV.renL,tau,CV.denil,HV.norm,fI,upd_at,fob_at,HV.toC,HV.toCL]⟩,⟨by simp[HO.men,HV.men],by simp,_,rfl,by simp[HO.close,HV.close,HV.closeL,HO.ren,HV.ren,HV.renL,tau,CV.denil,HV.norm,fI,upd_at,fob_at,HV.toC,HV.toCL]⟩,trivial⟩) rfl List.nodup_nil (by simp) (by simp) ⟨rfl,rfl⟩
 refine aJ ?_;refine T0 (hK _ _ _ ?_);clear hK K;refine aB fun K hK=>?_;have hv:isV ls a w 2=true:=by simpa using hb
 obtain⟨hl,hl1,hl2⟩:=gN hv;have hnum:=aH7 hv hl;have hw:IntKind.i64.wrap ((a:Int)+1)=((a+1:Nat):Int):=IntWalk.i64_in _ (by omega);clear hb;refine aB fun K hK=>bX (by kernel_rfl) ?_;simp only[sR,simprocAttr];refine SG0 ?_;refine cE (g:=none) rfl rfl fun K' hK'=>?_;simp only[sN,↓hopH.eq_def,sH,↓sP,sA,tyS,simprocAttr];refine AX (hK' _ _ ?_);clear hK' K';refine SG0 ?_;refine T2 (hK _ _ _ ?_);clear hK K;refine aN ?_;refine bS (α:={y:Nat×Int//(y.1=0∧y.2=x)∨(y.1=1∧bL (wd ls[a] 1)=some y.2)}) (fun y=>(fin [(0,.ptr 0 0),(18,.own 1 1),(19,.c (.int .i64 1)),(20,.c (.int .i64 y.1.1))],fob [(0,.box 94 (.c (rdr ls a))),(1,.hrow 176 1 [.ptr 2 0]),(2,.box 2 (.c (.int .i64 y.1.2)))])) 100 (fun y=>1-y.1.1) ⟨(0,x),.inl ⟨rfl,rfl⟩⟩ (fF) ?_;rintro⟨⟨i,y⟩,hiy⟩;simp only at hiy;refine R0 ?_;refine aB fun K hK=>?_;refine aG (b:=decide ((i:Int)<1)) rfl (fun hb=>?_) (fun hb=>?_)
 ·
  have hi0:i=0:=by simp at hb;omega
  subst hi0;obtain rfl:y=x:=by rcases hiy with h|h;exact h.2;exact absurd h.1 (by decide)
  clear hb;refine aJ ?_;refine T0 (hK _ _ _ ?_);clear hK K;refine aB fun K hK=>?_;refine aN ?_;refine aB fun K hK=>bX (by kernel_rfl) ?_;simp only[sR,simprocAttr];refine SG0 ?_;refine cE (g:=none) rfl rfl fun K' hK'=>?_;simp only[sN,↓hopH.eq_def,sH,↓sP,sA,tyS,simprocAttr];refine AX (hK' _ _ ?_);clear hK' K';refine cE (g:=none) rfl rfl fun K' hK'=>?_;simp only[sN,↓hopH.eq_def,sH,↓sP,sA,tyS,simprocAttr];refine AX (hK' _ _ ?_);clear hK' K';iterate 2 refine SG0 ?_
  refine T2 (hK _ _ _ ?_);clear hK K;refine aB fun K hK=>Rg ?_;iterate 3 refine S0 ?_
  refine HS rfl rfl fun K' hK'=>T5 ?_;refine eR (args:=[_]) (lX ls a 1 hl (by omega)) rfl (by simp) ⟨rfl,rfl,rfl,rfl⟩ ?_;rintro u x' v' ⟨rfl,rfl,rfl⟩;refine AX (hK' _ _ ?_);clear hK' K';iterate 5 refine S0 ?_
  refine T2 (hK _ _ _ ?_);clear hK K;refine aB fun K hK=>?_;refine R0 ?_;refine aG (b:=!(bL (wd ls[a] 1)).isSome) rfl (fun hb=>?_) (fun hb=>?_)
  ·
   have hno:bL (wd ls[a] 1)=none:=by simpa using hb
   rw[hno]at hnum;refine R0 ?_;refine aE (RT Tryz.results130 ?_);rw[hnum];exact eO [] [] (.c (.bool false)) [.box 94 (.c (rdr ls a)),.hrow 176 1 [.ptr 2 0],.box 2 (.c (.int .i64 y))] rfl (by simp[HV.men]) (⟨⟨by simp[HO.men,HV.men],by simp,_,rfl,by simp[HO.close,HV.close,HV.closeL,HO.ren,HV.ren,HV.renL,tau,CV.denil,HV.norm,fI,upd_at,fob_at,HV.toC,HV.toCL,rdr,CV.denilL,aT]⟩,⟨by simp[HO.men,HV.men,HV.menL],by simp,_,rfl,by simp[HO.close,HV.close,HV.closeL,HO.ren,HV.ren,HV.renL,tau,CV.denil,HV.norm,fI,upd_at,fob_at,HV.toC,HV.toCL]⟩,⟨by simp[HO.men,HV.men],by simp,_,rfl,by simp[HO.close,HV.close,HV.closeL,HO.ren,HV.ren,HV.renL,tau,CV.denil,HV.norm,fI,upd_at,fob_at,HV.toC,HV.toCL]⟩,trivial⟩) rfl List.nodup_nil (by simp) (by simp) ⟨rfl,rfl⟩
  obtain⟨n,hn⟩: ∃n,bL (wd ls[a] 1)=some n:=by
   cases h:bL (wd ls[a] 1)with
   |none=>rw[h]at hb;simp at hb
   |some n=>exact⟨n,rfl⟩
  simp only[hn,Option.getD_some,Option.isSome_some,Bool.not_true];clear hb;refine aJ ?_;refine T0 (hK _ _ _ ?_);clear hK K;refine Rg ?_;iterate 4 refine S0 ?_
  refine T2 (hK _ _ _ ?_);clear hK K;refine aK (by kernel_rfl) ?_;refine TQ (show IntKind.i64.wrap 1=1 from rfl) ?_;refine⟨⟨(1,n),.inr ⟨rfl,hn⟩⟩,fF,?_⟩;show 1-1<1-0;omega
 refine bI (T3 ?_);clear hK K;refine AX (hK _ _ _ ?_);clear hK K;obtain⟨rfl,hn⟩:i=1∧bL (wd ls[a] 1)=some y:=by
  rcases hiy with h|h
  · rw[h.1]at hb;simp at hb
  exact h
 clear hb;refine aB fun K hK=>Rg ?_;iterate 8 refine S0 ?_ (e:=fun _ h_=>by simp only[sH,↓sP,sA,tyS,simprocAttr,rdr,hw];exact AX h_)
 refine T2 (hK _ _ _ ?_);clear hK K;refine R0 ?_;refine aE (RT Tryz.results130 ?_);rw[hnum,hn];exact eO [] [] (.c (.bool true)) [.box 94 (.c (rdr ls (a+1))),.hrow 176 1 [.ptr 2 0],.box 2 (.c (.int .i64 y))] rfl (by simp[HV.men]) (⟨⟨by simp[HO.men,HV.men],by simp,_,rfl,by simp[HO.close,HV.close,HV.closeL,HO.ren,HV.ren,HV.renL,tau,CV.denil,HV.norm,fI,upd_at,fob_at,HV.toC,HV.toCL,rdr,CV.denilL,aT]⟩,⟨by simp[HO.men,HV.men,HV.menL],by simp,_,rfl,by simp[HO.close,HV.close,HV.closeL,HO.ren,HV.ren,HV.renL,tau,CV.denil,HV.norm,fI,upd_at,fob_at,HV.toC,HV.toCL]⟩,⟨by simp[HO.men,HV.men],by simp,_,rfl,by simp[HO.close,HV.close,HV.closeL,HO.ren,HV.ren,HV.renL,tau,CV.denil,HV.norm,fI,upd_at,fob_at,HV.toC,HV.toCL]⟩,trivial⟩) rfl List.nodup_nil (by simp) (by simp) ⟨rfl,rfl⟩
theorem cQ6 (ls:List (List aF))(a:Nat)(x y:Int):lst [.box 94 (.c (rdr ls a)),.hrow 176 1 [.ptr 2 0,.ptr 3 0],.box 2 (.c (.int .i64 x)),.box 2 (.c (.int .i64 y))]=fob [(0,.box 94 (.c (rdr ls a))),(1,.hrow 176 1 [.ptr 2 0,.ptr 3 0]),(2,.box 2 (.c (.int .i64 x))),(3,.box 2 (.c (.int .i64 y)))]:=by
 funext i
 match i with
 |0=>rfl
 |1=>rfl
 |2=>rfl
 |3=>rfl
 |i+4=>simp[lst,fob,upd]
theorem bY7 (ls:List (List aF))(a:Nat)(w:aF)(x y:Int)(ha:ls.length<2^40):
  HGe Tryz.prog 130 [.ptr 0 0,.c (.str w),.own 1 2] [.box 94 (.c (rdr ls a)),.hrow 176 1 [.ptr 2 0,.ptr 3 0],.box 2 (.c (.int .i64 x)),.box 2 (.c (.int .i64 y))]
   (fun r os'=>r= .c (.bool (mX ls a w).isSome)∧ ∃x' y',os'=[.box 94 (.c (rdr ls (if(mX ls a w).isSome then a+1 else a))),.hrow 176 1 [.ptr 2 0,.ptr 3 0],.box 2 (.c (.int .i64 x')),.box 2 (.c (.int .i64 y'))]∧ ∀n m,mX ls a w=some (n,m)→x'=n∧y'=m):=by
 refine cI (args:=[.ptr 0 0,.c (.str w),.own 1 2]) Tryz.func130 rfl (by kernel_rfl) (fZ rfl (by simp[eU,HO.men,HV.men,HV.menL]) (by simp[HV.menL,HV.men])) (Nat.le_of_ble_eq_true rfl) ?_;show Hw _ _ 4 _ _ _ (lst _) 4;rw[cQ6];refine R0 ?_;refine aB fun K hK=>?_;refine aB fun K hK=>bX (by kernel_rfl) ?_;simp only[sR,simprocAttr];iterate 3 refine SG0 ?_
 refine cE (g:=none) rfl rfl fun K' hK'=>?_;simp only[sN,↓hopH.eq_def,sH,↓sP,sA,tyS,simprocAttr];refine AX (hK' _ _ ?_);clear hK' K';refine SG0 ?_;refine bZ (g:=none) rfl rfl fun K' hK'=>T5 ?_;refine dG (args:=[_,_]) (aD7 ls a 3 w (by omega)) rfl (by simp) ⟨rfl,rfl,rfl,rfl⟩ ?_;rintro u v' ⟨rfl,rfl⟩;refine AX (hK' _ _ ?_);clear hK' K';refine SG0 ?_;refine T2 (hK _ _ _ ?_);clear hK K;refine aG (b:=!isV ls a w 3) rfl (fun hb=>?_) (fun hb=>?_)
 ·
  refine R0 ?_;refine aE (RT Tryz.results130 ?_);have hv:isV ls a w 3=false:=by simpa using hb
  rw[cE4 hv];exact eO [] [] (.c (.bool false)) [.box 94 (.c (rdr ls a)),.hrow 176 1 [.ptr 2 0,.ptr 3 0],.box 2 (.c (.int .i64 x)),.box 2 (.c (.int .i64 y))] rfl (by simp[HV.men]) (⟨⟨by simp[HO.men,HV.men],by simp,_,rfl,by simp[HO.close,HV.close,HV.closeL,HO.ren,HV.ren,HV.renL,tau,CV.denil,HV.norm,fI,upd_at,fob_at,HV.toC,HV.toCL,rdr,CV.denilL,aT]⟩,⟨by simp[HO.men,HV.men,HV.menL],by simp,_,rfl,by simp[HO.close,HV.close,HV.closeL,HO.ren,HV.ren,HV.renL,tau,CV.denil,HV.norm,fI,upd_at,fob_at,HV.toC,HV.toCL,rdr,CV.denilL,aT]⟩,⟨by simp[HO.men,HV.men],by simp,_,rfl,by simp[HO.close,HV.close,HV.closeL,HO.ren,HV.ren,HV.renL,tau,CV.denil,HV.norm,fI,upd_at,fob_at,HV.toC,HV.toCL,rdr,CV.denilL,aT]⟩,⟨by simp[HO.men,HV.men],by simp,_,rfl,by simp[HO.close,HV.close,HV.closeL,HO.ren,HV.ren,HV.renL,tau,CV.denil,HV.norm,fI,upd_at,fob_at,HV.toC,HV.toCL,rdr,CV.denilL,aT]⟩,trivial⟩) rfl List.nodup_nil (by simp) (by simp) ⟨rfl,x,y,rfl,fun n m h=>by cases h⟩
 refine aJ ?_;refine T0 (hK _ _ _ ?_);clear hK K;refine aB fun K hK=>?_;have hv:isV ls a w 3=true:=by simpa using hb
 obtain⟨hl,hl1,hl2⟩:=gN hv;have hnum:=bD9 hv hl;have hw:IntKind.i64.wrap ((a:Int)+1)=((a+1:Nat):Int):=IntWalk.i64_in _ (by omega);clear hb;refine aB fun K hK=>bX (by kernel_rfl) ?_;simp only[sR,simprocAttr];refine SG0 ?_;refine cE (g:=none) rfl rfl fun K' hK'=>?_;simp only[sN,↓hopH.eq_def,sH,↓sP,sA,tyS,simprocAttr];refine AX (hK' _ _ ?_);clear hK' K';refine SG0 ?_;refine T2 (hK _ _ _ ?_);clear hK K;refine aN ?_;refine bS (α:={y':Nat×Int×Int//(y'.1=0∧y'.2=(x,y))∨(y'.1=1∧bL (wd ls[a] 1)=some y'.2.1∧y'.2.2=y)∨(y'.1=2∧bL (wd ls[a] 1)=some y'.2.1∧bL (wd ls[a] 2)=some y'.2.2)}) (fun y'=>(fin [(0,.ptr 0 0),(18,.own 1 2),(19,.c (.int .i64 2)),(20,.c (.int .i64 y'.1.1))],fob [(0,.box 94 (.c (rdr ls a))),(1,.hrow 176 1 [.ptr 2 0,.ptr 3 0]),(2,.box 2 (.c (.int .i64 y'.1.2.1))),(3,.box 2 (.c (.int .i64 y'.1.2.2)))])) 100 (fun y'=>2-y'.1.1) ⟨(0,x,y),.inl ⟨rfl,rfl⟩⟩ (fF) ?_;rintro⟨⟨i,x1,y1⟩,hiy⟩;simp only[Prod.mk.injEq]at hiy;refine R0 ?_;refine aB fun K hK=>?_;refine aG (b:=decide ((i:Int)<2)) rfl (fun hb=>?_) (fun hb=>?_)
 ·
  have hi2:i<2:=by simp at hb;omega
  clear hb;refine aJ ?_;refine T0 (hK _ _ _ ?_);clear hK K;refine aB fun K hK=>?_;refine aN ?_;by_cases hi0:i=0
  ·
   subst hi0;refine aB fun K hK=>bX (by kernel_rfl) ?_;simp only[sR,simprocAttr];refine SG0 ?_;refine cE (g:=none) rfl rfl fun K' hK'=>?_;simp only[sN,↓hopH.eq_def,sH,↓sP,sA,tyS,simprocAttr];refine AX (hK' _ _ ?_);clear hK' K';refine cE (g:=none) rfl rfl fun K' hK'=>?_;simp only[sN,↓hopH.eq_def,sH,↓sP,sA,tyS,simprocAttr];refine AX (hK' _ _ ?_);clear hK' K';iterate 2 refine SG0 ?_
   refine T2 (hK _ _ _ ?_);clear hK K;refine aB fun K hK=>Rg ?_;iterate 3 refine S0 ?_
   refine HS rfl rfl fun K' hK'=>T5 ?_;refine eR (args:=[_]) (lX ls a 1 hl (by omega)) rfl (by simp) ⟨rfl,rfl,rfl,rfl⟩ ?_;rintro u x' v' ⟨rfl,rfl,rfl⟩;refine AX (hK' _ _ ?_);clear hK' K';iterate 5 refine S0 ?_
   refine T2 (hK _ _ _ ?_);clear hK K;refine aB fun K hK=>?_;refine R0 ?_;refine aG (b:=!(bL (wd ls[a] 1)).isSome) rfl (fun hb=>?_) (fun hb=>?_)
   ·
    have hno:bL (wd ls[a] 1)=none:=by simpa using hb
    rw[hno]at hnum;have hnum:mX ls a w=none:=hnum;refine R0 ?_;refine aE (RT Tryz.results130 ?_);rw[hnum];exact eO [] [] (.c (.bool false)) [.box 94 (.c (rdr ls a)),.hrow 176 1 [.ptr 2 0,.ptr 3 0],.box 2 (.c (.int .i64 x1)),.box 2 (.c (.int .i64 y1))] rfl (by simp[HV.men]) (⟨⟨by simp[HO.men,HV.men],by simp,_,rfl,by simp[HO.close,HV.close,HV.closeL,HO.ren,HV.ren,HV.renL,tau,CV.denil,HV.norm,fI,upd_at,fob_at,HV.toC,HV.toCL,rdr,CV.denilL,aT]⟩,⟨by simp[HO.men,HV.men,HV.menL],by simp,_,rfl,by simp[HO.close,HV.close,HV.closeL,HO.ren,HV.ren,HV.renL,tau,CV.denil,HV.norm,fI,upd_at,fob_at,HV.toC,HV.toCL,rdr,CV.denilL,aT]⟩,⟨by simp[HO.men,HV.men],by simp,_,rfl,by simp[HO.close,HV.close,HV.closeL,HO.ren,HV.ren,HV.renL,tau,CV.denil,HV.norm,fI,upd_at,fob_at,HV.toC,HV.toCL,rdr,CV.denilL,aT]⟩,⟨by simp[HO.men,HV.men],by simp,_,rfl,by simp[HO.close,HV.close,HV.closeL,HO.ren,HV.ren,HV.renL,tau,CV.denil,HV.norm,fI,upd_at,fob_at,HV.toC,HV.toCL,rdr,CV.denilL,aT]⟩,trivial⟩) rfl List.nodup_nil (by simp) (by simp) ⟨rfl,_,_,rfl,fun n m h=>by cases h⟩
   obtain⟨n,hn⟩: ∃n,bL (wd ls[a] 1)=some n:=by
    cases h:bL (wd ls[a] 1)with
    |none=>rw[h]at hb;simp at hb
    |some n=>exact⟨n,rfl⟩
   simp only[hn,Option.getD_some,Option.isSome_some,Bool.not_true];clear hb;refine aJ ?_;refine T0 (hK _ _ _ ?_);clear hK K;refine Rg ?_;iterate 4 refine S0 ?_
   refine T2 (hK _ _ _ ?_);clear hK K;refine aK (by kernel_rfl) ?_;simp only[↓sP,sA,tyS,simprocAttr,(show IntKind.i64.wrap 1=1 from rfl),(show IntKind.i64.wrap 2=2 from rfl)];refine⟨⟨(1,n,y1),.inr (.inl ⟨rfl,hn,by rcases hiy with h|h|h;exact h.2.2;exact absurd h.1 (by decide);exact absurd h.1 (by decide)⟩)⟩,fF,?_⟩;show 2-1<2-0;omega
  obtain rfl:i=1:=by omega
  have h1:bL (wd ls[a] 1)=some x1:=by
   rcases hiy with h|h|h
   · omega
   · exact h.2.1
   omega
  refine aB fun K hK=>bX (by kernel_rfl) ?_;simp only[sR,simprocAttr];refine SG0 ?_;refine cE (g:=none) rfl rfl fun K' hK'=>?_;simp only[sN,↓hopH.eq_def,sH,↓sP,sA,tyS,simprocAttr];refine AX (hK' _ _ ?_);clear hK' K';refine cE (g:=none) rfl rfl fun K' hK'=>?_;simp only[sN,↓hopH.eq_def,sH,↓sP,sA,tyS,simprocAttr];refine AX (hK' _ _ ?_);clear hK' K';iterate 2 refine SG0 ?_
  refine T2 (hK _ _ _ ?_);clear hK K;refine aB fun K hK=>Rg ?_;iterate 3 refine S0 ?_
  refine HS rfl rfl fun K' hK'=>T5 ?_;refine eR (args:=[_]) (lX ls a 2 hl (by omega)) rfl (by simp) ⟨rfl,rfl,rfl,rfl⟩ ?_;rintro u x' v' ⟨rfl,rfl,rfl⟩;refine AX (hK' _ _ ?_);clear hK' K';iterate 5 refine S0 ?_
  refine T2 (hK _ _ _ ?_);clear hK K;refine aB fun K hK=>?_;refine R0 ?_;refine aG (b:=!(bL (wd ls[a] 2)).isSome) rfl (fun hb=>?_) (fun hb=>?_)
  ·
   have hno:bL (wd ls[a] 2)=none:=by simpa using hb
   rw[hno,h1]at hnum;have hnum:mX ls a w=none:=hnum;refine R0 ?_;refine aE (RT Tryz.results130 ?_);rw[hnum];exact eO [] [] (.c (.bool false)) [.box 94 (.c (rdr ls a)),.hrow 176 1 [.ptr 2 0,.ptr 3 0],.box 2 (.c (.int .i64 x1)),.box 2 (.c (.int .i64 y1))] rfl (by simp[HV.men]) (⟨⟨by simp[HO.men,HV.men],by simp,_,rfl,by simp[HO.close,HV.close,HV.closeL,HO.ren,HV.ren,HV.renL,tau,CV.denil,HV.norm,fI,upd_at,fob_at,HV.toC,HV.toCL,rdr,CV.denilL,aT]⟩,⟨by simp[HO.men,HV.men,HV.menL],by simp,_,rfl,by simp[HO.close,HV.close,HV.closeL,HO.ren,HV.ren,HV.renL,tau,CV.denil,HV.norm,fI,upd_at,fob_at,HV.toC,HV.toCL,rdr,CV.denilL,aT]⟩,⟨by simp[HO.men,HV.men],by simp,_,rfl,by simp[HO.close,HV.close,HV.closeL,HO.ren,HV.ren,HV.renL,tau,CV.denil,HV.norm,fI,upd_at,fob_at,HV.toC,HV.toCL,rdr,CV.denilL,aT]⟩,⟨by simp[HO.men,HV.men],by simp,_,rfl,by simp[HO.close,HV.close,HV.closeL,HO.ren,HV.ren,HV.renL,tau,CV.denil,HV.norm,fI,upd_at,fob_at,HV.toC,HV.toCL,rdr,CV.denilL,aT]⟩,trivial⟩) rfl List.nodup_nil (by simp) (by simp) ⟨rfl,_,_,rfl,fun n m h=>by cases h⟩
  obtain⟨n,hn⟩: ∃n,bL (wd ls[a] 2)=some n:=by
   cases h:bL (wd ls[a] 2)with
   |none=>rw[h]at hb;simp at hb
   |some n=>exact⟨n,rfl⟩
  simp only[hn,Option.getD_some,Option.isSome_some,Bool.not_true];clear hb;refine aJ ?_;refine T0 (hK _ _ _ ?_);clear hK K;refine Rg ?_;iterate 4 refine S0 ?_
  refine T2 (hK _ _ _ ?_);clear hK K;refine aK (by kernel_rfl) ?_;simp only[↓sP,sA,tyS,simprocAttr,(show IntKind.i64.wrap 1=1 from rfl),(show IntKind.i64.wrap 2=2 from rfl)];refine⟨⟨(2,x1,n),.inr (.inr ⟨rfl,h1,hn⟩)⟩,fF,?_⟩;show 2-2<2-1;omega
 refine bI (T3 ?_);clear hK K;refine AX (hK _ _ _ ?_);clear hK K;obtain⟨rfl,h1,h2⟩:i=2∧bL (wd ls[a] 1)=some x1∧bL (wd ls[a] 2)=some y1:=by
  rcases hiy with h|h|h
  · rw[h.1]at hb;simp at hb
  · rw[h.1]at hb;simp at hb
  exact h
 have hnum:mX ls a w=some (x1,y1):=by rw[hnum,h1,h2]
 clear hb;refine aB fun K hK=>Rg ?_;iterate 8 refine S0 ?_ (e:=fun _ h_=>by simp only[sH,↓sP,sA,tyS,simprocAttr,rdr,hw];exact AX h_)
 refine T2 (hK _ _ _ ?_);clear hK K;refine R0 ?_;refine aE (RT Tryz.results130 ?_);rw[hnum];exact eO [] [] (.c (.bool true)) [.box 94 (.c (rdr ls (a+1))),.hrow 176 1 [.ptr 2 0,.ptr 3 0],.box 2 (.c (.int .i64 x1)),.box 2 (.c (.int .i64 y1))] rfl (by simp[HV.men]) (⟨⟨by simp[HO.men,HV.men],by simp,_,rfl,by simp[HO.close,HV.close,HV.closeL,HO.ren,HV.ren,HV.renL,tau,CV.denil,HV.norm,fI,upd_at,fob_at,HV.toC,HV.toCL,rdr,CV.denilL,aT]⟩,⟨by simp[HO.men,HV.men,HV.menL],by simp,_,rfl,by simp[HO.close,HV.close,HV.closeL,HO.ren,HV.ren,HV.renL,tau,CV.denil,HV.norm,fI,upd_at,fob_at,HV.toC,HV.toCL,rdr,CV.denilL,aT]⟩,⟨by simp[HO.men,HV.men],by simp,_,rfl,by simp[HO.close,HV.close,HV.closeL,HO.ren,HV.ren,HV.renL,tau,CV.denil,HV.norm,fI,upd_at,fob_at,HV.toC,HV.toCL,rdr,CV.denilL,aT]⟩,⟨by simp[HO.men,HV.men],by simp,_,rfl,by simp[HO.close,HV.close,HV.closeL,HO.ren,HV.ren,HV.renL,tau,CV.denil,HV.norm,fI,upd_at,fob_at,HV.toC,HV.toCL,rdr,CV.denilL,aT]⟩,trivial⟩) rfl List.nodup_nil (by simp) (by simp) ⟨rfl,_,_,rfl,fun n m h=>by cases h;exact⟨rfl,rfl⟩⟩
end Go.Proofs.YtlldglbooaefhaaGreatDoor
