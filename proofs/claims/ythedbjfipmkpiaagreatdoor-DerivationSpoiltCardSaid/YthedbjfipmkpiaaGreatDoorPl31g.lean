/- Part of a proof: walks of functions of the program, by contracts, and the rules they use. By an AI agent. -/
import Derived.Test.YthedbjfipmkpiaaGreatDoorHdV9
set_option maxRecDepth 10000
set_option maxHeartbeats 16000000
set_option linter.unusedSimpArgs false
set_option linter.unusedVariables false
set_option linter.defProp false
namespace Go.Proofs.YthedbjfipmkpiaaGreatDoor
open Go Go.Hl Go.Pl
theorem mV (a b:List aK):fP (a++b)=(fP a).bind fun x=>(fP b).map (x++·):=by
 unfold fP;rw[List.mapM_append];cases List.mapM cU a with
 |none=>rfl
 |some x=>cases List.mapM cU b<;>rfl
theorem vO (w:aK):fP [w]=(cU w).map ([·]):=by
 unfold fP;simp only[K6,List.mapM_nil];cases cU w<;>rfl
variable {n:Int}{i:Nat}{l:List aK}
theorem bY7 (h:i<l.length){o:List Int}(I:fP (l.take i)=some o)(hn:cU l[i]=some n):fP (l.take (i+1))=some (o++[n]):=by
 rw[A5 h,mV,I,vO,hn];rfl
theorem aO3 (h:i<l.length)(hn:cU l[i]=none):fP l=none:=by
 have e:l=l.take i++([l[i]]++l.drop (i+1)):=by
  rw[AW,List.getElem_cons_drop,K9]
 rw[e,mV,mV,vO,hn];cases fP (l.take i)<;>rfl
variable {b:Bool}
theorem dO3 (h:(!b)=false):b=true:=by cases b<;>simp_all
variable {ls:List (List aK)}
theorem fA (h:i<ls.length):nth (ls.map lsC) i= .slc ((wd' ls i).map .str):=by
 rw[aW h,wd',B4,A9 h];rfl
theorem cY (h:i<l.length):nth (l.map .str) i= .str (wd l i):=by
 rw[aW h,wd,B4,A9 h];rfl
theorem aE8 (l:List aK)(hl:l.length<2^38):fH Tryz.prog 125 [.slc (l.map .str)] (fun u v=>u= .slc (((fP l).getD []).map (CV.int .i64))∧v= .bool (fP l).isSome):=by
 refine FW Tryz.func125 ?_;refine R0 ?_;refine R0 ?_;refine aC fun K I=>?_;refine R0 ?_;refine aL ?_;refine eH 4 0 3 1 rfl rfl rfl rfl ?_;refine bB (α:={y:Nat×List Int//y.1≤l.length∧y.2.length=y.1∧fP (l.take y.1)=some y.2}) (fun y=>(fin [(4,.own 24 y.1.2.length),(9,.c (.slc (l.map .str))),(10,.c (.int .i64 l.length)),(11,.c (.int .i64 y.1.1))],fob [(24,.row 3 1 (y.1.2.map (CV.int .i64)))])) 100 (fun y=>l.length-y.1.1) ⟨(0,[]),by omega,rfl,rfl⟩ (fF) ?_;rintro⟨⟨i,o⟩,hi,ho,U⟩;simp only at hi ho U⊢;refine R0 ?_;refine aC fun K I=>?_;refine aJ (b:=decide ((i:Int)<l.length)) rfl (fun hb=>?_) (fun hb=>?_)
 ·
  have J:i<l.length:=by have:=F9 hb;omega
  have ad:o.length+1≤maxLen:=by simp only[maxLen];omega
  have ae:(o.length+1)*8≤140737488355328:=by omega
  clear hb;refine aG ?_;refine T0 (I _ _ _ ?_);clear I K;refine aC fun K I=>?_;refine aL ?_;have F:=aI @A1 (aI @A4 (aI J (nM J)));refine RF ?_;refine aC fun K I=>Rg ?_;refine S0 ?_;refine HS rfl rfl fun K' aa=>T5 ?_;refine D1 (cW0 l[i]) ?_;rintro u v ⟨rfl,rfl⟩;refine AX (aa _ _ ?_);clear aa K';refine AU ?_;refine T2 (I _ _ _ ?_);clear I K;refine aC fun K I=>?_;refine R0 ?_;refine aJ (b:=!(cU l[i]).isSome) rfl (fun hb=>?_) (fun hb=>?_)
  ·
   refine R0 ?_;refine aE (RT Tryz.results125 ?_);have hn:cU l[i]=none:=by simpa using hb
   exact aO [] (.slc []) (.bool false) (by simp) ⟨by rw[aO3 J hn];rfl,by rw[aO3 J hn];rfl⟩
  obtain⟨n,hn⟩:=G0.1 (dO3 hb);rw[hn];clear hb;refine aG ?_;refine T0 (I _ _ _ ?_);clear I K;refine Rg ?_;have F:=aI @A0.{0,0} (aI ad (aI ae @E9.{0}));refine AU ?_;refine T2 (I _ _ _ ?_);clear I K;refine aM (by kernel_rfl) ?_;refine TQ (cW i) ?_;refine⟨⟨(i+1,o++[n]),by show i+1≤l.length;omega,by simp[ho],bY7 J U hn⟩,(fG (by simp[C5,A3])),?_⟩;show l.length-(i+1)<l.length-i;omega
 have ab:i=l.length:=by have:=G7 hb;omega
 subst ab;rw[C6]at U;refine aV (T3 ?_);clear I K;refine AX (I _ _ _ ?_);clear I K;refine R0 ?_;refine aE (RT Tryz.results125 ?_);exact aO [24] (.slc (o.map (CV.int .i64))) (.bool true) (by simp) ⟨by rw[U];rfl,by rw[U];rfl⟩
theorem vP (a b:aK):fP [a,b]=(cU a).bind fun x=>(cU b).map fun y=>[x,y]:=by
 rw[show [a,b]=[a]++[b]from rfl,mV,vO,vO];cases cU a<;>cases cU b<;>rfl
theorem dK7 (x y:CV):nth [x,y] 0=x:=rfl
theorem dK8 (x y:CV):nth [x,y] 1=y:=rfl
theorem iR (h:(eZ (wd (wd' ls 0) 3)).isSome=false∨(eZ (wd (wd' ls 0) 5)).isSome=false∨(eZ (wd (wd' ls 1) 1)).isSome=false∨(fP [wd (wd' ls 0) 4,wd (wd' ls 0) 6]).isSome=false):iT ls=none:=by
 unfold iT;split
 · rfl
 split
 · rename_i e1 e2 U J I;rw[e1,e2,U,vP,J,I]at h;simp at h
 rfl
theorem bN (h:ls.length<2∨(wd' ls 0).length≠7∨wd (wd' ls 0) 0≠wDer∨(wd' ls 1).length≠4∨wd (wd' ls 1) 0≠wOrg):iT ls=none:=B1 h
section
variable {q o:CV}{t r:Int}{p:Dig}
theorem gA (J:q.cells=34)(I:o.cells=34):HV.getAt 102 1 false (.c (.agg [q,.int .i64 t,dg p,.int .i64 r,o,.nils]))=some (.c .nils):=by
 simp[HV.getAt,CV.getAt,CV.getAtL,CV.cells,CV.cellsL,dg_cells,J,I]
theorem gB (J:q.cells=34)(I:o.cells=34)(y:HV):HV.setAt 102 1 y (.c (.agg [q,.int .i64 t,dg p,.int .i64 r,o,.nils]))=some (.agg [.c q,.c (.int .i64 t),.c (dg p),.c (.int .i64 r),.c o,y]):=by
 simp[HV.setAt,CV.setAt,CV.setAtL,CV.cells,CV.cellsL,dg_cells,J,I]
end
def cK9 (ls:List (List aK))(r:HV)(os':List HO):Prop:=
 ∃x:Dv,x.l=[]∧r= .tup [.agg [.c x.q.cv,.c (.int .i64 x.t),.c (dg x.p),.c (.int .i64 x.r),.c x.o.cv,.own 0 0],.c (.bool (iT ls).isSome)]∧os'=[.row 41 4 []]∧ ∀d,iT ls=some d→d=x
variable {r:HV}{ob:Ob}
theorem bQ7 {x:Dv}{q o:CV}(N:Nat)(hl:x.l=[])(hr:r= .tup [.agg [.c q,.c (.int .i64 x.t),.c (dg x.p),.c (.int .i64 x.r),.c o,.own N 0],.c (.bool b)])(J:ob N=some (.row 41 4 []))(hq:q.denil=x.q.cv)(U:o.denil=x.o.cv)(h2:(iT ls).isSome=b)(h1: ∀d,iT ls=some d→d=x):
  gR 0 r ob (fun r ob'=> ∃I,ob'=lst I∧(0≤I.length∧I.length≤0+4)∧cK9 ls r I):=by
 subst hr;refine eM [] [N] (.tup [.agg [.c x.q.cv,.c (.int .i64 x.t),.c (dg x.p),.c (.int .i64 x.r),.c x.o.cv,.own 0 0],.c (.bool b)]) [.row 41 4 []] ?_ (by simp) ⟨⟨by simp,by simp,_,(by simpa[tau]using J),rfl⟩,trivial⟩ rfl (by simp) (by simp) (by simp) ⟨x,hl,by rw[h2],rfl,h1⟩;simp[hq,U,dg_denil,tau]
theorem head_ok (ls:List (List aK))(hb: ∀l∈ls,∀w∈l,w.length<2^40):HGe Tryz.prog 95 [.c (.slc (ls.map lsC))] [] (cK9 ls):=by
 refine bO (args:=[.c (.slc (ls.map lsC))]) Tryz.func95 rfl (by kernel_rfl) (dQ rfl (by simp[cV]) (by simp)) (C7 rfl) ?_;show Hw _ _ 0 _ _ _ (lst _) 0;rw[cK3];have ag: ∀i j,(wd (wd' ls i) j).length<2^40:=fun i j=>by
  unfold wd wd';rw[B4,B4];rcases H4 i ls.length with h|h
  ·
   rw[A9 h];rcases H4 j ls[i].length with h'|h'
   · simp only[E9,A9 h'];exact hb _ (B5 h) _ (B5 h')
   simp only[E9,I5 h'];simp
  simp[I5 h]
 have I: ∀{ob:Ob} {r:HV} (N:Nat),iT ls=none→r= .tup [.agg [.c (.agg [.str [],.str [],zd]),.c (.int .i64 0),.c zd,.c (.int .i64 0),.c (.agg [zd,.str [],.str []]),.own N 0],.c (.bool false)]→ob N=some (.row 41 4 [])→gR 0 r ob (fun r ob'=> ∃af,ob'=lst af∧(0≤af.length∧af.length≤0+4)∧cK9 ls r af):=fun N h hr h0=>bQ7 (x:=dv0) N rfl hr h0 rfl rfl (by rw[h];rfl) (fun d hd=>by rw[h]at hd;cases hd);clear hb;refine R0 ?_;refine aC fun K hK=>?_;by_cases h1:2≤ls.length
 ·
  by_cases h2:(wd' ls 0).length=7
  ·
   by_cases h3:wd (wd' ls 0) 0=wDer
   ·
    by_cases h4:(wd' ls 1).length=4
    ·
     by_cases h5:wd (wd' ls 1) 0=wOrg
     ·
      refine RS ?_;iterate 33 refine S0 ?_ (e:=fun _ h_=>by simp only[sH,↓sP,sA,tyS,simprocAttr,A0,(O8 (by omega):decide ((ls.length:Int)<2)=false),fA (show 0<ls.length by omega),fA (show 1<ls.length by omega),Int.toNat_zero,h2,h4,cY (show 0<(wd' ls 0).length by omega),cY (show 0<(wd' ls 1).length by omega),h3,wDer,h5,wOrg];exact AX h_)
      refine RE ?_;refine CF rfl ?_;refine aG ?_;refine T0 (hK _ _ _ ?_);clear hK K;refine aC fun K hK=>Rg ?_;iterate 5 refine S0 ?_ (e:=fun _ h_=>by simp only[sH,↓sP,sA,tyS,simprocAttr,A0,fA (show 0<ls.length by omega),E7,h2,cY (show 3<(wd' ls 0).length by omega)];exact AX h_)
      refine HS rfl rfl fun K' ad=>?_;simp only[sH,↓sP,sA,tyS,simprocAttr,A0,fA (show 0<ls.length by omega),E7,h2,cY (show 3<(wd' ls 0).length by omega)];refine D1 (rM (wd (wd' ls 0) 3) (ag _ _)) ?_;rintro u v ⟨rfl,rfl⟩;refine AX (ad _ _ ?_);clear ad K';iterate 6 refine S0 ?_ (e:=fun _ h_=>by simp only[sH,↓sP,sA,tyS,simprocAttr,A0,fA (show 0<ls.length by omega),E7,h2,cY (show 3<(wd' ls 0).length by omega)];exact AX h_)
      refine T2 (hK _ _ _ ?_);clear hK K;refine aC fun K hK=>Rg ?_;iterate 5 refine S0 ?_ (e:=fun _ h_=>by simp only[sH,↓sP,sA,tyS,simprocAttr,A0,fA (show 0<ls.length by omega),E7,h2,cY (show 5<(wd' ls 0).length by omega)];exact AX h_)
      refine HS rfl rfl fun K' ad=>?_;simp only[sH,↓sP,sA,tyS,simprocAttr,A0,fA (show 0<ls.length by omega),E7,h2,cY (show 5<(wd' ls 0).length by omega)];refine D1 (rM (wd (wd' ls 0) 5) (ag _ _)) ?_;rintro u v ⟨rfl,rfl⟩;refine AX (ad _ _ ?_);clear ad K';iterate 6 refine S0 ?_ (e:=fun _ h_=>by simp only[sH,↓sP,sA,tyS,simprocAttr,A0,fA (show 0<ls.length by omega),E7,h2,cY (show 5<(wd' ls 0).length by omega)];exact AX h_)
      refine T2 (hK _ _ _ ?_);clear hK K;refine aC fun K hK=>Rg ?_;iterate 5 refine S0 ?_ (e:=fun _ h_=>by simp only[sH,↓sP,sA,tyS,simprocAttr,A0,fA (show 1<ls.length by omega),E7,h4,cY (show 1<(wd' ls 1).length by omega)];exact AX h_)
      refine HS rfl rfl fun K' ad=>?_;simp only[sH,↓sP,sA,tyS,simprocAttr,A0,fA (show 1<ls.length by omega),E7,h4,cY (show 1<(wd' ls 1).length by omega)];refine D1 (rM (wd (wd' ls 1) 1) (ag _ _)) ?_;rintro u v ⟨rfl,rfl⟩;refine AX (ad _ _ ?_);clear ad K';iterate 6 refine S0 ?_ (e:=fun _ h_=>by simp only[sH,↓sP,sA,tyS,simprocAttr,A0,fA (show 1<ls.length by omega),E7,h4,cY (show 1<(wd' ls 1).length by omega)];exact AX h_)
      refine T2 (hK _ _ _ ?_);clear hK K;refine aC fun K hK=>dT mixed [(0,[],[]),(1,[],[]),(2,[],[]),(3,[],[]),(4,[],[]),(5,[],[]),(6,[],[]),(7,[],[]),(8,[],[]),(9,[],[]),(10,[],[]),(11,[],[]),(12,[],[]),(13,[],[]),(14,[],[]),(15,[],[]),(16,[],[])] [0,1,3,7,15,0,32,96,224,480,1023,2047,4095,8191,8191,16383,65535] (by kernel_rfl) (by kernel_rfl) (by kernel_rfl) (by kernel_rfl) rfl (by kernel_rfl) ?_;iterate 10 refine WG0 ?_ (e:=fun _ h_=>by simp only[sH,↓sP,sA,tyS,simprocAttr,A0,fA (show 0<ls.length by omega),E7,h2,cY (show 4<(wd' ls 0).length by omega),cY (show 6<(wd' ls 0).length by omega)];exact AX h_)
      refine jA (g:=none) 324 rfl rfl fun K' ad=>?_;simp only[gH,kC,sH,↓sP,sA,tyS,simprocAttr,A0,fA (show 0<ls.length by omega),E7,h2,cY (show 4<(wd' ls 0).length by omega),cY (show 6<(wd' ls 0).length by omega)];repeat refine AI ?_
      refine cO (by first|rfl|simp) ?_;try simp only[sH,↓sP,sA,tyS,simprocAttr,A0,fA (show 0<ls.length by omega),E7,h2,cY (show 4<(wd' ls 0).length by omega),cY (show 6<(wd' ls 0).length by omega)]
      refine AX (ad _ _ ?_);clear ad K';refine cT (g:=none) rfl rfl fun K' ad=>?_;simp only[sH,↓sP,sA,tyS,simprocAttr,A0,fA (show 0<ls.length by omega),E7,h2,cY (show 4<(wd' ls 0).length by omega),cY (show 6<(wd' ls 0).length by omega)];refine D1 (aE8 [wd (wd' ls 0) 4,wd (wd' ls 0) 6] (by simp)) ?_;rintro u v ⟨rfl,rfl⟩;refine AX (ad _ _ ?_);clear ad K';iterate 5 refine WG0 ?_ (e:=fun _ h_=>by simp only[sH,↓sP,sA,tyS,simprocAttr,A0,fA (show 0<ls.length by omega),E7,h2,cY (show 4<(wd' ls 0).length by omega),cY (show 6<(wd' ls 0).length by omega)];exact AX h_)
      refine T2 (hK _ _ _ ?_);clear hK K;refine aC fun K hK=>?_;refine AU ?_;refine aH 88 rfl (fun J=>?_) (fun J=>?_)
      ·
       have F:=J;refine AU ?_;refine aH 91 rfl (fun U=>?_) (fun U=>?_)
       ·
        have F:=aI J U;refine AU ?_;refine aH 95 rfl (fun aa=>?_) (fun aa=>?_)
        ·
         have F:=aI J (aI U aa);refine AU ?_;refine aH 99 rfl (fun ab=>?_) (fun ab=>?_)
         ·
          simp only[ab];refine RE ?_;refine CF rfl ?_;obtain⟨a,ha⟩:=G0.1 (show(eZ (wd (wd' ls 0) 3)).isSome=true by simp[J,U,aa,ab]);obtain⟨p,hp⟩:=G0.1 (show(eZ (wd (wd' ls 0) 5)).isSome=true by simp[J,U,aa,ab]);obtain⟨v,hv⟩:=G0.1 (show(eZ (wd (wd' ls 1) 1)).isSome=true by simp[J,U,aa,ab]);have ae:(fP [wd (wd' ls 0) 4,wd (wd' ls 0) 6]).isSome=true:=by simp[J,U,aa,ab]
          obtain⟨t,ht⟩: ∃t,cU (wd (wd' ls 0) 4)=some t:=by
           rw[vP]at ae;cases h:cU (wd (wd' ls 0) 4)with
           |none=>rw[h]at ae;cases ae
           |some t=>exact⟨t,rfl⟩
          obtain⟨n,hn⟩: ∃n,cU (wd (wd' ls 0) 6)=some n:=by
           rw[vP,ht]at ae;cases h:cU (wd (wd' ls 0) 6)with
           |none=>rw[h]at ae;cases ae
           |some t=>exact⟨t,rfl⟩
          have ah:fP [wd (wd' ls 0) 4,wd (wd' ls 0) 6]=some [t,n]:=by rw[vP,ht,hn];rfl
          have hh:iT ls=some ⟨⟨wd (wd' ls 0) 1,wd (wd' ls 0) 2,a⟩,t,p,n,⟨v,wd (wd' ls 1) 2,wd (wd' ls 1) 3⟩,[]⟩:=by
           unfold iT;rw[A7 (by simp[h2,h3,h4,h5];omega),ha,hp,hv,ht,hn]
          rw[ha,hp,hv,ah];refine aG ?_;refine T0 (hK _ _ _ ?_);clear hK K;refine aC fun K hK=>DW [(0,[],[]),(1,[],[]),(2,[],[]),(3,[],[]),(4,[],[]),(5,[],[]),(6,[],[]),(7,[],[]),(8,[],[]),(9,[],[]),(10,[],[]),(11,[],[]),(12,[],[]),(13,[],[]),(14,[],[]),(15,[],[]),(16,[],[]),(17,[],[]),(18,[],[]),(19,[],[]),(20,[],[]),(21,[],[]),(22,[],[]),(23,[],[]),(24,[],[]),(25,[],[]),(26,[],[]),(27,[],[]),(28,[],[]),(29,[],[]),(30,[],[]),(31,[],[]),(32,[],[]),(33,[],[])] [0,1,3,7,15,0,32,96,224,480,0,2047,0,4096,12288,0,0,65536,196608,0,0,1048576,3145728,7340032,15728640,0,33554432,100663296,234881024,503316480,1073217536,2147483647,4294967295,8589934591] ?_;iterate 34 refine W0 ?_ (e:=fun _ h_=>by simp only[sH,↓sP,sA,tyS,simprocAttr,A0,fA (show 0<ls.length by omega),fA (show 1<ls.length by omega),E7,h2,h4,cY (show 1<(wd' ls 0).length by omega),cY (show 2<(wd' ls 0).length by omega),cY (show 2<(wd' ls 1).length by omega),cY (show 3<(wd' ls 1).length by omega),E9,dK7,dK8,bG,bH,J,U,aa,ab];exact AX h_)
          refine T2 (hK _ _ _ ?_);clear hK K;refine dV 0 102 41 4 rfl (gA ?_ ?_) rfl (gB ?_ ?_ _) ?_
          · simp[Qs.cv,Og.cv,CV.cells,CV.cellsL,zd,dg_cells]
          · simp[Qs.cv,Og.cv,CV.cells,CV.cellsL,zd,dg_cells]
          · simp[Qs.cv,Og.cv,CV.cells,CV.cellsL,zd,dg_cells]
          · simp[Qs.cv,Og.cv,CV.cells,CV.cellsL,zd,dg_cells]
          refine aE (RT Tryz.results95 ?_);refine⟨rfl,?_⟩;refine bQ7 (x:=⟨⟨wd (wd' ls 0) 1,wd (wd' ls 0) 2,a⟩,t,p,n,⟨v,wd (wd' ls 1) 2,wd (wd' ls 1) 3⟩,[]⟩) (b:=true) (q:=(⟨wd (wd' ls 0) 1,wd (wd' ls 0) 2,a⟩:Qs).cv) (o:=(⟨v,wd (wd' ls 1) 2,wd (wd' ls 1) 3⟩:Og).cv) 544 rfl ?_ rfl ?_ ?_ ?_ (fun d hd=>by rw[hh]at hd;exact(F6 hd).symm)
          · rfl
          · simp[Qs.cv,dg_denil]
          · simp[Og.cv,dg_denil]
          simp[hh]
         simp only[ab];refine RE ?_;refine CT rfl ?_;have F:=aI @bG @bH;refine RF ?_;refine dV 0 102 41 4 rfl (gA ?_ ?_) rfl (gB ?_ ?_ _) ?_
         · simp[Qs.cv,Og.cv,CV.cells,CV.cellsL,zd,dg_cells]
         · simp[Qs.cv,Og.cv,CV.cells,CV.cellsL,zd,dg_cells]
         · simp[Qs.cv,Og.cv,CV.cells,CV.cellsL,zd,dg_cells]
         · simp[Qs.cv,Og.cv,CV.cells,CV.cellsL,zd,dg_cells]
         refine aE (RT Tryz.results95 ?_);refine⟨rfl,?_⟩;first|(refine I 152 (bN (.inl (by omega))) ?_ ?_<;>rfl)|(refine I 152 (bN (.inr (.inl h2))) ?_ ?_<;>rfl)|(refine I 152 (bN (.inr (.inr (.inl h3)))) ?_ ?_<;>rfl)|(refine I 152 (bN (.inr (.inr (.inr (.inl h4))))) ?_ ?_<;>rfl)|(refine I 152 (bN (.inr (.inr (.inr (.inr h5))))) ?_ ?_<;>rfl)|(refine I 420 (iR (by simp[J,U,aa,ab])) ?_ ?_<;>rfl)
        have F:=aI J (aI U aa);refine AU ?_;refine CT rfl ?_;have F:=aI @bG @bH;refine RF ?_;refine dV 0 102 41 4 rfl (gA ?_ ?_) rfl (gB ?_ ?_ _) ?_
        · simp[Qs.cv,Og.cv,CV.cells,CV.cellsL,zd,dg_cells]
        · simp[Qs.cv,Og.cv,CV.cells,CV.cellsL,zd,dg_cells]
        · simp[Qs.cv,Og.cv,CV.cells,CV.cellsL,zd,dg_cells]
        · simp[Qs.cv,Og.cv,CV.cells,CV.cellsL,zd,dg_cells]
        refine aE (RT Tryz.results95 ?_);refine⟨rfl,?_⟩;first|(refine I 152 (bN (.inl (by omega))) ?_ ?_<;>rfl)|(refine I 152 (bN (.inr (.inl h2))) ?_ ?_<;>rfl)|(refine I 152 (bN (.inr (.inr (.inl h3)))) ?_ ?_<;>rfl)|(refine I 152 (bN (.inr (.inr (.inr (.inl h4))))) ?_ ?_<;>rfl)|(refine I 152 (bN (.inr (.inr (.inr (.inr h5))))) ?_ ?_<;>rfl)|(refine I 420 (iR (by simp[J,U,aa])) ?_ ?_<;>rfl)
       have F:=aI J U;refine AU ?_;refine CT rfl ?_;have F:=aI @bG @bH;refine RF ?_;refine dV 0 102 41 4 rfl (gA ?_ ?_) rfl (gB ?_ ?_ _) ?_
       · simp[Qs.cv,Og.cv,CV.cells,CV.cellsL,zd,dg_cells]
       · simp[Qs.cv,Og.cv,CV.cells,CV.cellsL,zd,dg_cells]
       · simp[Qs.cv,Og.cv,CV.cells,CV.cellsL,zd,dg_cells]
       · simp[Qs.cv,Og.cv,CV.cells,CV.cellsL,zd,dg_cells]
       refine aE (RT Tryz.results95 ?_);refine⟨rfl,?_⟩;first|(refine I 152 (bN (.inl (by omega))) ?_ ?_<;>rfl)|(refine I 152 (bN (.inr (.inl h2))) ?_ ?_<;>rfl)|(refine I 152 (bN (.inr (.inr (.inl h3)))) ?_ ?_<;>rfl)|(refine I 152 (bN (.inr (.inr (.inr (.inl h4))))) ?_ ?_<;>rfl)|(refine I 152 (bN (.inr (.inr (.inr (.inr h5))))) ?_ ?_<;>rfl)|(refine I 420 (iR (by simp[J,U])) ?_ ?_<;>rfl)
      have F:=J;refine AU ?_;refine CT rfl ?_;have F:=aI @bG @bH;refine RF ?_;refine dV 0 102 41 4 rfl (gA ?_ ?_) rfl (gB ?_ ?_ _) ?_
      · simp[Qs.cv,Og.cv,CV.cells,CV.cellsL,zd,dg_cells]
      · simp[Qs.cv,Og.cv,CV.cells,CV.cellsL,zd,dg_cells]
      · simp[Qs.cv,Og.cv,CV.cells,CV.cellsL,zd,dg_cells]
      · simp[Qs.cv,Og.cv,CV.cells,CV.cellsL,zd,dg_cells]
      refine aE (RT Tryz.results95 ?_);refine⟨rfl,?_⟩;first|(refine I 152 (bN (.inl (by omega))) ?_ ?_<;>rfl)|(refine I 152 (bN (.inr (.inl h2))) ?_ ?_<;>rfl)|(refine I 152 (bN (.inr (.inr (.inl h3)))) ?_ ?_<;>rfl)|(refine I 152 (bN (.inr (.inr (.inr (.inl h4))))) ?_ ?_<;>rfl)|(refine I 152 (bN (.inr (.inr (.inr (.inr h5))))) ?_ ?_<;>rfl)|(refine I 420 (iR (by simp[J])) ?_ ?_<;>rfl)
     refine RS ?_;iterate 33 refine S0 ?_ (e:=fun _ h_=>by simp only[sH,↓sP,sA,tyS,simprocAttr,A0,(O8 (by omega):decide ((ls.length:Int)<2)=false),fA (show 0<ls.length by omega),fA (show 1<ls.length by omega),Int.toNat_zero,h2,h4,cY (show 0<(wd' ls 0).length by omega),cY (show 0<(wd' ls 1).length by omega),h3,wDer,(by rw[Bool.not_eq_true',beq_eq_false_iff_ne];exact h5:(!(wd (wd' ls 1) 0==[111,114,105,103,105,110]))=true)];exact AX h_)
     refine RE ?_;refine CT rfl ?_;have F:=aI @bG @bH;refine RF ?_;refine dV 0 102 41 4 rfl (gA ?_ ?_) rfl (gB ?_ ?_ _) ?_
     · simp[Qs.cv,Og.cv,CV.cells,CV.cellsL,zd,dg_cells]
     · simp[Qs.cv,Og.cv,CV.cells,CV.cellsL,zd,dg_cells]
     · simp[Qs.cv,Og.cv,CV.cells,CV.cellsL,zd,dg_cells]
     · simp[Qs.cv,Og.cv,CV.cells,CV.cellsL,zd,dg_cells]
     refine aE (RT Tryz.results95 ?_);refine⟨rfl,?_⟩;first|(refine I 152 (bN (.inl (by omega))) ?_ ?_<;>rfl)|(refine I 152 (bN (.inr (.inl h2))) ?_ ?_<;>rfl)|(refine I 152 (bN (.inr (.inr (.inl h3)))) ?_ ?_<;>rfl)|(refine I 152 (bN (.inr (.inr (.inr (.inl h4))))) ?_ ?_<;>rfl)|(refine I 152 (bN (.inr (.inr (.inr (.inr h5))))) ?_ ?_<;>rfl)|(refine I 420 (iR (by simp[Q9])) ?_ ?_<;>rfl)
    refine RS ?_;iterate 33 refine S0 ?_ (e:=fun _ h_=>by simp only[sH,↓sP,sA,tyS,simprocAttr,A0,(O8 (by omega):decide ((ls.length:Int)<2)=false),fA (show 0<ls.length by omega),fA (show 1<ls.length by omega),Int.toNat_zero,h2,cY (show 0<(wd' ls 0).length by omega),h3,wDer,(bne_iff_ne.2 (by omega):(((wd' ls 1).length:Int) !=4)=true)];exact AX h_)
    refine RE ?_;refine CT rfl ?_;have F:=aI @bG @bH;refine RF ?_;refine dV 0 102 41 4 rfl (gA ?_ ?_) rfl (gB ?_ ?_ _) ?_
    · simp[Qs.cv,Og.cv,CV.cells,CV.cellsL,zd,dg_cells]
    · simp[Qs.cv,Og.cv,CV.cells,CV.cellsL,zd,dg_cells]
    · simp[Qs.cv,Og.cv,CV.cells,CV.cellsL,zd,dg_cells]
    · simp[Qs.cv,Og.cv,CV.cells,CV.cellsL,zd,dg_cells]
    refine aE (RT Tryz.results95 ?_);refine⟨rfl,?_⟩;first|(refine I 152 (bN (.inl (by omega))) ?_ ?_<;>rfl)|(refine I 152 (bN (.inr (.inl h2))) ?_ ?_<;>rfl)|(refine I 152 (bN (.inr (.inr (.inl h3)))) ?_ ?_<;>rfl)|(refine I 152 (bN (.inr (.inr (.inr (.inl h4))))) ?_ ?_<;>rfl)|(refine I 152 (bN (.inr (.inr (.inr (.inr h5))))) ?_ ?_<;>rfl)|(refine I 420 (iR (by simp[Q9])) ?_ ?_<;>rfl)
   refine RS ?_;iterate 33 refine S0 ?_ (e:=fun _ h_=>by simp only[sH,↓sP,sA,tyS,simprocAttr,A0,(O8 (by omega):decide ((ls.length:Int)<2)=false),fA (show 0<ls.length by omega),Int.toNat_zero,h2,cY (show 0<(wd' ls 0).length by omega),(by rw[Bool.not_eq_true',beq_eq_false_iff_ne];exact h3:(!(wd (wd' ls 0) 0==[100,101,114,105,118,97,116,105,111,110]))=true)];exact AX h_)
   refine RE ?_;refine CT rfl ?_;have F:=aI @bG @bH;refine RF ?_;refine dV 0 102 41 4 rfl (gA ?_ ?_) rfl (gB ?_ ?_ _) ?_
   · simp[Qs.cv,Og.cv,CV.cells,CV.cellsL,zd,dg_cells]
   · simp[Qs.cv,Og.cv,CV.cells,CV.cellsL,zd,dg_cells]
   · simp[Qs.cv,Og.cv,CV.cells,CV.cellsL,zd,dg_cells]
   · simp[Qs.cv,Og.cv,CV.cells,CV.cellsL,zd,dg_cells]
   refine aE (RT Tryz.results95 ?_);refine⟨rfl,?_⟩;first|(refine I 152 (bN (.inl (by omega))) ?_ ?_<;>rfl)|(refine I 152 (bN (.inr (.inl h2))) ?_ ?_<;>rfl)|(refine I 152 (bN (.inr (.inr (.inl h3)))) ?_ ?_<;>rfl)|(refine I 152 (bN (.inr (.inr (.inr (.inl h4))))) ?_ ?_<;>rfl)|(refine I 152 (bN (.inr (.inr (.inr (.inr h5))))) ?_ ?_<;>rfl)|(refine I 420 (iR (by simp[Q9])) ?_ ?_<;>rfl)
  refine RS ?_;iterate 33 refine S0 ?_ (e:=fun _ h_=>by simp only[sH,↓sP,sA,tyS,simprocAttr,A0,(O8 (by omega):decide ((ls.length:Int)<2)=false),fA (show 0<ls.length by omega),Int.toNat_zero,(bne_iff_ne.2 (by omega):(((wd' ls 0).length:Int) !=7)=true)];exact AX h_)
  refine RE ?_;refine CT rfl ?_;have F:=aI @bG @bH;refine RF ?_;refine dV 0 102 41 4 rfl (gA ?_ ?_) rfl (gB ?_ ?_ _) ?_
  · simp[Qs.cv,Og.cv,CV.cells,CV.cellsL,zd,dg_cells]
  · simp[Qs.cv,Og.cv,CV.cells,CV.cellsL,zd,dg_cells]
  · simp[Qs.cv,Og.cv,CV.cells,CV.cellsL,zd,dg_cells]
  · simp[Qs.cv,Og.cv,CV.cells,CV.cellsL,zd,dg_cells]
  refine aE (RT Tryz.results95 ?_);refine⟨rfl,?_⟩;first|(refine I 152 (bN (.inl (by omega))) ?_ ?_<;>rfl)|(refine I 152 (bN (.inr (.inl h2))) ?_ ?_<;>rfl)|(refine I 152 (bN (.inr (.inr (.inl h3)))) ?_ ?_<;>rfl)|(refine I 152 (bN (.inr (.inr (.inr (.inl h4))))) ?_ ?_<;>rfl)|(refine I 152 (bN (.inr (.inr (.inr (.inr h5))))) ?_ ?_<;>rfl)|(refine I 420 (iR (by simp[Q9])) ?_ ?_<;>rfl)
 refine RS ?_;have F:=aI @A0.{0,0} (Y8 (by omega):decide ((ls.length:Int)<2)=true);refine AU ?_;refine CT rfl ?_;have F:=aI @bG @bH;refine RF ?_;refine dV 0 102 41 4 rfl (gA ?_ ?_) rfl (gB ?_ ?_ _) ?_
 · simp[Qs.cv,Og.cv,CV.cells,CV.cellsL,zd,dg_cells]
 · simp[Qs.cv,Og.cv,CV.cells,CV.cellsL,zd,dg_cells]
 · simp[Qs.cv,Og.cv,CV.cells,CV.cellsL,zd,dg_cells]
 · simp[Qs.cv,Og.cv,CV.cells,CV.cellsL,zd,dg_cells]
 refine aE (RT Tryz.results95 ?_);refine⟨rfl,?_⟩;first|(refine I 152 (bN (.inl (by omega))) ?_ ?_<;>rfl)|(refine I 152 (bN (.inr (.inl h2))) ?_ ?_<;>rfl)|(refine I 152 (bN (.inr (.inr (.inl h3)))) ?_ ?_<;>rfl)|(refine I 152 (bN (.inr (.inr (.inr (.inl h4))))) ?_ ?_<;>rfl)|(refine I 152 (bN (.inr (.inr (.inr (.inr h5))))) ?_ ?_<;>rfl)|(refine I 420 (iR (by simp[Q9])) ?_ ?_<;>rfl)
def aU1 (s:Array Nat):Nat:=(List.range 5).countP fun j=>!s.contains j
variable {j:Nat}
theorem bC5 {s:Array Nat}(J:j<5)(h:s.contains j=false):aU1 (s.push j)<aU1 s:=by
 have h':j∉s:=by simpa using h
 have I: ∀i,(s.push j).contains i=(s.contains i||i==j):=fun i=>by
  rw[K5];simp[Array.mem_push]
 unfold aU1;simp only[I];obtain rfl|rfl|rfl|rfl|rfl:j=0∨j=1∨j=2∨j=3∨j=4:=by omega
 all_goals
  simp only[show List.range 5=[0,1,2,3,4]from rfl,List.countP_cons,List.countP_nil];simp[h'];try omega
variable {w:aK}
theorem bY8 (h: ∀j,j<5→(wlK.getD j (0,[])).2≠w):iS w=none:=by
 have J:=h 0 (by omega);have U:=h 1 (by omega);have h2:=h 2 (by omega);have h3:=h 3 (by omega);have I:=h 4 (by omega);simp only[wlK,B4,M1,M2,E9]at J U h2 h3 I;unfold iS;rw[A7 (U0 J),A7 (U0 U),A7 (U0 h2),A7 (U0 h3),A7 (U0 I)]
theorem bY9 (I:j<5)(h:(wlK.getD j (0,[])).2=w):iS w=some (wlK.getD j (0,[])).1:=by
 subst h;obtain rfl|rfl|rfl|rfl|rfl:j=0∨j=1∨j=2∨j=3∨j=4:=by omega
 all_goals decide
theorem aU2 :wlK.length=5:=rfl
theorem cW3 (h:j<wlK.length):wlK[j]=wlK.getD j (0,[]):=by rw[B4,A9 h];rfl
def dK9 (s:Array Nat):Option Nat→Prop
 |none=> ∀j,j<5→s.contains j=true
 |some j=>j<5∧s.contains j=false
def bQ8 (s:Array Nat):Option Nat→Array Nat
 |none=>s
 |some j=>s.push j
theorem dL0 (x:CV)(l:List CV):nth (x::l) 0=x:=rfl
def lnZ :CV:= .agg [.int .i64 0,.int .i64 0,.nils,.nils]
def bQ9 (w:List aK)(r:HV)(os':List HO):Prop:=
 ∃(k n:Int) (f:List Int),r= .tup [.agg [.c (.int .i64 k),.c (.int .i64 n),.own 0 0,.c (.slc (f.map (CV.int .i64)))],.c (.bool (fS w).isSome)]∧os'=[.row 44 32 []]∧ ∀x,fS w=some x→x=⟨k,n,[],f⟩
theorem bR0 {w:List aK}{k:Int}{f:List Int}{U:CV}(N:Nat)(hr:r= .tup [.agg [.c (.int .i64 k),.c (.int .i64 n),.own N 0,.c U],.c (.bool b)])(h0:ob N=some (.row 44 32 []))(J:U.denil= .slc (f.map (CV.int .i64)))(h2:(fS w).isSome=b)(h1: ∀x,fS w=some x→x=⟨k,n,[],f⟩):
  gR 0 r ob (fun r ob'=> ∃I,ob'=lst I∧(0≤I.length∧I.length≤0+4)∧bQ9 w r I):=by
 subst hr;refine eM [] [N] (.tup [.agg [.c (.int .i64 k),.c (.int .i64 n),.own 0 0,.c (.slc (f.map (CV.int .i64)))],.c (.bool b)]) [.row 44 32 []] ?_ (by simp) ⟨⟨by simp,by simp,_,(by simpa[tau]using h0),rfl⟩,trivial⟩ rfl (by simp) (by simp) (by simp) ⟨k,n,f,by rw[h2],rfl,h1⟩;simp[J,tau]
theorem cW4 (w:List aK)(hl:w.length<2^38)(h0:0<w.length):HGe Tryz.prog 96 [.c (.slc (w.map .str))] [] (bQ9 w):=by
 refine bO (args:=[.c (.slc (w.map .str))]) Tryz.func96 rfl (by kernel_rfl) (dQ rfl (by simp[cV]) (by simp)) (C7 rfl) ?_;show Hw _ _ 0 _ _ _ (lst _) 0;rw[cK3];have ad: ∀{ob:Ob} {r:HV} (N:Nat),fS w=none→r= .tup [.agg [.c (.int .i64 0),.c (.int .i64 0),.own N 0,.c .nils],.c (.bool false)]→ob N=some (.row 44 32 [])→gR 0 r ob (fun r ob'=> ∃ab,ob'=lst ab∧(0≤ab.length∧ab.length≤0+4)∧bQ9 w r ab):=fun N h hr h0=>bR0 (f:=[]) N hr h0 rfl (by rw[h];rfl) (fun x hx=>by rw[h]at hx;cases hx);have ax:List.take (w.length-1) ((w.drop 1).map CV.str)=(w.drop 1).map .str:=C8 (by simp);have hdr:List.drop 1 (w.map CV.str)=(w.drop 1).map .str:=by rw[P3]
 refine R0 ?_;refine aC fun K I=>Rg ?_;have F:=aI @A0.{0,0} hdr;refine AU ?_;refine HS rfl rfl fun K' J=>T6 ?_;rw[ax,denilL_str];refine D1 (aE8 (w.drop 1) (by simp;omega)) ?_;rintro u v ⟨rfl,rfl⟩;refine AX (J _ _ ?_);clear J K';refine AU ?_;refine T2 (I _ _ _ ?_);clear I K;refine aC fun K I=>?_;by_cases hs:(fP (w.drop 1)).isSome=true
 ·
  by_cases aa:(fP (w.drop 1)).getD []=[]
  ·
   obtain⟨ns,U⟩:=G0.1 hs;rw[U]at aa
   replace aa:ns=[]:=aa
   subst aa;rw[U];refine RS ?_;have F:=aI @E9.{0} (aI @V2.{0} @F2.{0,0});refine AU ?_;refine CT rfl ?_;refine R0 ?_;refine dV 0 2 44 32 rfl rfl rfl rfl ?_;refine aE (RT Tryz.results96 ?_);refine⟨rfl,?_⟩;first|(refine ad 412 (by rw[af,ah];rfl) ?_ ?_<;>rfl)|(refine ad 80 (by unfold fS;rw[U]) ?_ ?_<;>rfl)|(refine ag 504 ?_ ?_ ?_ ?_;rotate_left 2;rfl;rfl;(cases f<;>simp[ae]<;>omega))
  obtain⟨ns,U⟩:=G0.1 hs;rw[U]at aa
  replace aa:ns≠[]:=aa
  rw[U];refine RS ?_;have F:=aI @E9.{0} (aI @V2.{0} @A0.{0,0});refine AU ?_;refine aJ (b:=((ns.length:Int)==0)) rfl (fun hb=>?_) (fun hb=>?_)
  ·
   have h1:ns.length=0:=by have:=eq_of_beq hb;omega
   exact absurd (D3 h1) aa
  obtain⟨n,f,rfl⟩: ∃n f,ns=n::f:=by
   match ns,aa with
   |n::f,_=>exact⟨n,f,rfl⟩
  clear hb;have af:fS w=(iS (wd w 0)).bind fun k=>if k=1∧f≠[]then none else some (⟨k,n,[],f⟩:Ln):=by unfold fS;rw[U]
  have ay:Tryz.prog.underlying 130=some (.map 3 9):=Tryz.underlying130;refine aG ?_;refine T0 (I _ _ _ ?_);clear I K;refine aC fun K I=>?_;refine aC fun K I=>bO8 ?_;refine bA5 (g:=none) (by kernel_rfl) rfl rfl fun K' J=>T5 ?_;refine dR [] bC3 rfl trivial (by simp) (by simp) ⟨rfl,rfl,rfl,rfl⟩ (by simp[cV]) (by simp) ?_;rintro r ab ⟨rfl,rfl⟩;rw[cK4,bQ6];refine AX (J _ _ ?_);clear J K';refine cG6 (by kernel_rfl) rfl rfl rfl rfl ay rfl rfl ?_;refine aD2 rfl (I _ _ _ ?_);clear I K;refine aL ?_;refine bB (α:={s:Array Nat// ∀j,j<5→s.contains j=true→(wlK.getD j (0,[])).2≠wd w 0}) (fun s=>(fin [(0,.c (.slc (w.map .str))),(2,.ptr 0 0),(4,.c (.slc (CV.int .i64 n::f.map (CV.int .i64)))),(23,.ptr 72 0)],fob [(0,.box 41 (.c lnZ)),(68,.raw (jK wlK) 5),(72,.it 68 5 s.1 5)])) 200 (fun s=>aU1 s.1) ⟨#[],fun j _ h=>by simp at h⟩ (fG (by simp[lnZ])) ?_;rintro⟨s,hs⟩;refine aC fun K I=>?_;have key: ∀(o:Option Nat) fr ob nx,dK9 s o→Fits 0 fr ob (fin [(0,.c (.slc (w.map .str))),(2,.ptr 0 0),(4,.c (.slc (CV.int .i64 n::f.map (CV.int .i64)))),(23,.ptr 72 0),(25,.c (.bool o.isSome))]) (fob [(0,.box 41 (.c lnZ)),(68,.raw (jK wlK) 5),(72,.it 68 5 (bQ8 s o) 5)]) 400→K fr ob nx:=by
   rintro o fr ob nx ho hf;refine I _ _ _ (aZ hf ?_);clear hf I K;refine aC fun K I=>?_;refine aJ (b:=o.isSome) rfl (fun hb=>?_) (fun hb=>?_)
   ·
    obtain⟨j,rfl⟩:=G0.1 hb;obtain⟨hj,aj⟩:=ho;have ao:j<wlK.length:=hj;clear hb;refine aG ?_;refine T0 (I _ _ _ ?_);clear I K;refine aL ?_;refine aC fun K I=>bO8 ?_;refine cG7 (l:=wlK) ao (by kernel_rfl) rfl rfl rfl rfl rfl rfl rfl ?_;iterate 4
     (refine bA5 (g:=none) (by kernel_rfl) rfl rfl fun K' J=>?_;simp only[sH,↓sP,sA,tyS,simprocAttr];(repeat refine AI ?_);refine J _ _ ?_;clear J K')
    refine aD2 rfl (I _ _ _ ?_);clear I K;rw[cW3 ao];obtain⟨kw,ai⟩: ∃kw,kw=wlK.getD j (0,[]):=⟨_,rfl⟩;rw[←ai];refine RS ?_;iterate 5 refine S0 ?_ (e:=fun _ h_=>by simp only[sH,↓sP,sA,tyS,simprocAttr,A0,cY h0,E7];exact AX h_)
    refine RE ?_;refine aJ (b:=(kw.2==wd w 0)) rfl (fun hb=>?_) (fun hb=>?_)
    ·
     have au:iS (wd w 0)=some kw.1:=by rw[ai];exact bY9 hj (by rw[←ai];exact eq_of_beq hb)
     clear hb;have ar:List.take f.length (f.map (CV.int .i64))=f.map (CV.int .i64):=C8 (by simp);have ag: ∀{ob:Ob} {r:HV} (N:Nat) (b:Bool),b=decide (¬(kw.1=1∧f≠[]))→r= .tup [.agg [.c (.int .i64 kw.1),.c (.int .i64 n),.own N 0,.c (.slc (f.map (CV.int .i64)))],.c (.bool b)]→ob N=some (.row 44 32 [])→gR 0 r ob (fun r ob'=> ∃ab,ob'=lst ab∧(0≤ab.length∧ab.length≤0+4)∧bQ9 w r ab):=fun N b hb hr h0=>by
      refine bR0 (f:=f) N hr h0 (by simp[denilL_int]) ?_ ?_
      ·
       rw[af,au,hb];by_cases hc:kw.1=1∧f≠[]
       · rw[O8 (by simpa using hc)];simp[hc]
       rw[Y8 hc];simp[hc]
      intro x hx;rw[af,au]at hx;simp only[J0]at hx;split at hx
      · cases hx
      cases hx;rfl
     by_cases ae:kw.1=1
     ·
      have ak:(kw.1 !=1)=false:=by rw[ae];rfl
      refine aC fun K I=>DW [(0,[],[]),(1,[],[]),(2,[],[]),(3,[],[]),(4,[],[]),(5,[],[]),(6,[],[]),(7,[],[]),(8,[],[]),(9,[],[]),(10,[],[]),(11,[],[]),(12,[],[]),(13,[],[]),(14,[],[10,11,12,13]),(15,[],[])] [0,0,2,6,0,16,63,0,128,384,896,1920,3968,8064,1023,32767] ?_;iterate 16 refine W0 ?_ (e:=fun _ h_=>by simp only[sH,↓sP,sA,tyS,simprocAttr,dL0,E7,K0,A8,A0,Q7,G2,N9,ar,ak];exact AX h_)
      refine T2 (I _ _ _ ?_);clear I K;refine dV 0 2 44 32 rfl rfl rfl rfl ?_;refine aE (RT Tryz.results96 ?_);refine⟨rfl,?_⟩;first|(refine ad 412 (by rw[af,ah];rfl) ?_ ?_<;>rfl)|(refine ad 80 (by unfold fS;rw[U]) ?_ ?_<;>rfl)|(refine ag 504 ?_ ?_ ?_ ?_;rotate_left 2;rfl;rfl;(cases f<;>simp[ae]<;>omega))
     have ak:(kw.1 !=1)=true:=R9.2 ae;refine aC fun K I=>DW [(0,[],[]),(1,[],[]),(2,[],[]),(3,[],[]),(4,[],[]),(5,[],[]),(6,[],[]),(7,[],[]),(8,[],[]),(9,[],[]),(10,[],[]),(11,[],[]),(12,[],[]),(13,[],[]),(14,[],[10,11,12,13]),(15,[],[])] [0,0,2,6,0,16,63,0,128,384,896,1920,3968,8064,1023,32767] ?_;iterate 16 refine W0 ?_ (e:=fun _ h_=>by simp only[sH,↓sP,sA,tyS,simprocAttr,dL0,E7,K0,A8,A0,Q7,G2,N9,ar,ak];exact AX h_)
     refine T2 (I _ _ _ ?_);clear I K;refine dV 0 2 44 32 rfl rfl rfl rfl ?_;refine aE (RT Tryz.results96 ?_);refine⟨rfl,?_⟩;first|(refine ad 412 (by rw[af,ah];rfl) ?_ ?_<;>rfl)|(refine ad 80 (by unfold fS;rw[U]) ?_ ?_<;>rfl)|(refine ag 504 ?_ ?_ ?_ ?_;rotate_left 2;rfl;rfl;(cases f<;>simp[ae]<;>omega))
    have aa:kw.2≠wd w 0:=by intro e;rw[e]at hb;simp at hb
    clear hb;refine aG (T3 ?_);refine⟨⟨s.push j,fun i hi hc=>?_⟩,(fG (by simp[bQ8,aU2])),bC5 hj aj⟩;by_cases e:i=j
    · subst e;rw[←ai];exact aa
    refine hs i hi ?_;simp[Array.mem_push,e]at hc;simpa using hc
   have aw:o=none:=by cases o with|none=>rfl|some j=>cases hb
   subst aw;have ah:iS (wd w 0)=none:=bY8 fun j hj=>hs j hj (ho j hj);refine aV (T3 ?_);clear I K;refine AX (I _ _ _ ?_);clear I K;refine R0 ?_;refine dV 0 2 44 32 rfl rfl rfl rfl ?_;refine aE (RT Tryz.results96 ?_);refine⟨rfl,?_⟩;first|(refine ad 412 (by rw[af,ah];rfl) ?_ ?_<;>rfl)|(refine ad 80 (by unfold fS;rw[U]) ?_ ?_<;>rfl)|(refine ag 504 ?_ ?_ ?_ ?_;rotate_left 2;rfl;rfl;(cases f<;>simp[ae]<;>omega))
  refine bO8 ?_;refine cT5 (l:=wlK) (by kernel_rfl) rfl rfl rfl rfl rfl rfl rfl (fun an=>?_) (fun j hj aj=>?_)
  · refine bA5 (g:=none) (by kernel_rfl) rfl rfl fun K' J=>T5 ?_;refine AX (J _ _ ?_);refine aD2 rfl (key none _ _ _ (fun j hj=>an j hj) (fG (by simp[bQ8,aU2])))
  · refine bA5 (g:=none) (by kernel_rfl) rfl rfl fun K' J=>T5 ?_;refine AX (J _ _ ?_);refine aD2 rfl (key (some j) _ _ _ ⟨hj,aj⟩ (fG (by simp[bQ8,aU2])))
 have aq:(fP (w.drop 1)).isSome=false:=by simpa using hs
 have U:fP (w.drop 1)=none:=by simpa using aq
 refine RS ?_;have F:=aq;refine AU ?_;refine CT rfl ?_;refine R0 ?_;refine dV 0 2 44 32 rfl rfl rfl rfl ?_;refine aE (RT Tryz.results96 ?_);refine⟨rfl,?_⟩;first|(refine ad 412 (by rw[af,ah];rfl) ?_ ?_<;>rfl)|(refine ad 80 (by unfold fS;rw[U]) ?_ ?_<;>rfl)|(refine ag 504 ?_ ?_ ?_ ?_;rotate_left 2;rfl;rfl;(cases f<;>simp[ae]<;>omega))
end Go.Proofs.YthedbjfipmkpiaaGreatDoor
namespace Go.Hl
open Go
def mvN (id d:Nat):Nat→Nat:=fun i=>if i=id then d else i
def mvF (id d:Nat)(fr:Fr):Fr:=fun t=>(fr t).ren (mvN id d)
def mvO (id d:Nat)(ob:Ob):Ob:=fun i=>if i=d then(ob id).map (HO.ren (mvN id d))else if i=id then none else(ob i).map (HO.ren (mvN id d))
section
variable {P:Program}{n k:Nat}{Q:eI}{fr:Fr}{ob:Ob}{nx:Nat}
theorem RepA.mv {c:Ctx}{a:Act}{w:World}{M:Nat→Prop}(I:RepA c M fr ob a w)(af:c.M0=(· <k))(id d nx2:Nat)(hk:k≤id)(ah:k≤d)(hid:M id)(hM: ∀i,M i→i<nx2∧i≠d)(hd:d<nx2):RepA c (· <nx2) (mvF id d fr) (mvO id d ob) a w:=by
 obtain⟨ρ,I⟩:=I;have ag:id≠d:=(hM id hid).2
 let ρ2:Env:=fun i=>if i=d then ρ id else if i=id then none else ρ i
 have hm: ∀i,M i→ρ2 (mvN id d i)=ρ i:=fun i hi=>by
  have:=hM i hi;simp only[ρ2,mvN];grind
 have hinv: ∀i L,ρ2 i=some L→ ∃j,M j∧mvN id d j=i∧ρ j=some L:=fun i L hL=>by
  simp only[ρ2]at hL;split at hL
  · grind[mvN]
  ·
   split at hL
   · grind
   ·
    rename_i e1 e2;refine⟨i,?_,by simp[mvN,e2],hL⟩;by_cases J:M i
    · exact J
    · have:=(I.nid_none (nid:=i) J).2;grind
 have ab: ∀b,Own ρ2 b→Own ρ b:=fun b ⟨i,L,J,h2⟩=>let⟨j,_,_,h3⟩:=hinv i L J;⟨j,L,h3,h2⟩;have ad:Stay w (Owned ρ c.X) w (Owned ρ2 c.X):=Stay.same (fun b _ hb=>hb.imp _root_.id (ab b));have ae:Moves M ρ (fun i=>ρ2 (mvN id d i)):=Moves.of_eq fun i hi=>hm i hi;have aa: ∀i o,mvO id d ob i=some o→ ∃j o',M j∧mvN id d j=i∧ob j=some o'∧o=o'.ren (mvN id d):=fun i o ho=>by
  simp only[mvO]at ho;split at ho
  · grind[Option.map_eq_some_iff,mvN]
  ·
   split at ho
   · grind
   · rename_i e1 e2;obtain⟨o',J,h2⟩:=C9.1 ho;exact⟨i,o',(I.mo i o' J).1,by simp[mvN,e2],J,h2.symm⟩
 have U: ∀i,M i→mvN id d i<nx2:=fun i hi=>by
  have:=hM i hi;grind[mvN]
 refine⟨ρ2,⟨fun i o ho=>?_,fun i hi=>?_,fun i i' L L' b J h2 h3 h4=>?_,fun i L b J h2=>?_⟩,fun t ht=>?_,fun t=>?_,fun i o ho=>?_,fun i hi=>?_,?_,?_,I.defers,I.size,I.xlt⟩
 · obtain⟨j,o',hj,rfl,J,rfl⟩:=aa i o ho;exact RepO.unsub ad ae (I.mo j o' J).2 (hm j hj) (I.s.objs j o' J)
 ·
  simp only[mvO]at hi;simp only[ρ2];split at hi
  · rename_i e;rw[B1 e];exact I.s.none id (by simp_all)
  ·
   rename_i e;rw[A7 e];split at hi
   · grind
   · rename_i e2;rw[A7 e2];exact I.s.none i (by simp_all)
 · obtain⟨j,_,rfl,e1⟩:=hinv i L J;obtain⟨j',_,rfl,e2⟩:=hinv i' L' h2;rw[I.s.apart j j' L L' b e1 e2 h3 h4]
 · obtain⟨j,_,rfl,e1⟩:=hinv i L J;exact I.s.xb j L b e1 h2
 ·
  have hj:fr t≠ .junk:=by intro e;apply ht;simp only[mvF,e,HV.ren]
  have hf:=I.f t hj;exact⟨lS.2 (RepH.stay ad ae (I.mf t) hf.1),by simp only[mvF,HV.ren_isAgg];exact hf.2⟩
 · exact men_ren.2 (HV.men_mono U (I.mf t))
 · obtain⟨j,o',hj,rfl,J,rfl⟩:=aa i o ho;exact⟨U j hj,HO.men_ren.2 (HO.men_mono U (I.mo j o' J).2)⟩
 · exact(hM i (I.m0 i hi)).1
 · exact I.base.trans ⟨fun _ _ _=>rfl,fun b hb=> .inl (ab b hb),E3 _,rfl,rfl,rfl⟩
 ·
  refine Moves.trans (M':=c.M0) (fun i hi=>hi) I.moves fun i L hi hL=>⟨L,?_,.inl rfl⟩;rw[af]at hi;have J:i<k:=hi;simp only[ρ2]at hL
  rwa [A7 (by omega),A7 (by omega)]at hL
theorem bR1 {M:Nat→Prop}: ∀{l:List (Nat×HV)},(∀p∈l,p.2.men M)→ ∀t,(fin l t).men M
 |[],_,t=>by simp[fin,HV.men]
 |(t',v)::l,h,t=>by
  by_cases I:t=t'
  · subst I;simp only[fin,aR];exact h (t,v) (by simp)
  · simp only[fin,bE _ _ I];exact bR1 (fun p hp=>h p (by simp[hp])) t
theorem bR2 {M N:Nat→Prop}: ∀{l:List (Nat×HO)},(∀p∈l,N p.1∧p.2.men M)→ ∀t o,fob l t=some o→N t∧o.men M
 |[],_,t,o,ho=>by simp[fob]at ho
 |(t',v)::l,h,t,o,ho=>by
  by_cases I:t=t'
  · subst I;simp only[fob,aR]at ho;cases ho;exact h (t,v) (by simp)
  · simp only[fob,bE _ _ I]at ho;exact bR2 (fun p hp=>h p (by simp[hp])) t o ho
theorem bL2 {code:Code}(id d nx2:Nat)(l:List (Nat×HV))(h:List (Nat×HO))(h1:sD nx fr l)(h2:jQ nx ob h)(U:k≤nx)(hk:k≤id)(J:k≤d)(hid:id<nx)(aa:id≠d)(ab:nx≤nx2)(hd:d<nx2)
  (hl: ∀p∈l,p.2.men fun i=>i<nx∧i≠d) (hh: ∀p∈h,(p.1<nx∧p.1≠d)∧p.2.men fun i=>i<nx∧i≠d) (hw:Hw P n k code Q (mvF id d (fin l)) (mvO id d (fob h)) nx2):Hw P n k code Q fr ob nx:=by
 intro c a w hn I hz hA;refine hw c a w hn I hz ?_;obtain⟨ρ,hB⟩:=hA.fits I (bA U h1 h2);refine RepA.mv (M:=fun i=>i<nx∧i≠d) ⟨ρ,hB.s,hB.f,bR1 hl,bR2 (N:=fun i=>i<nx∧i≠d) hh,fun i hi=>?_,hB.base,hB.moves,hB.defers,hB.size,hB.xlt⟩ I id d nx2 hk J ⟨hid,aa⟩ (fun i hi=>⟨by omega,hi.2⟩) hd;rw[I]at hi;have:i<k:=hi;omega
end
end Go.Hl
namespace Go.Pl
open Go Go.Hl
def kM (ws:List (List aK)):Option (List Ln):=ws.foldlM dW []
theorem tI (ls:List (List aK)):fZ ls=(iT ls).bind fun d=>(kM (ls.drop 2)).map fun l=>{d with l:=l}:=rfl
theorem aO4 :kM []=some []:=rfl
theorem rO (a b:List (List aK)):kM (a++b)=(kM a).bind fun l=>b.foldlM dW l:=by
 unfold kM;rw[S2];rfl
variable {l:List Ln}{i:Nat}{ws:List (List aK)}
theorem mE (h:i<ws.length)(hl:kM (ws.take i)=some l):kM (ws.take (i+1))=dW l ws[i]:=by
 rw[A5 h,rO,hl];show([ws[i]].foldlM dW l)=_;simp only[P9,List.foldlM_nil];cases dW l ws[i]<;>rfl
theorem mF (h:i<ws.length)(hl:kM (ws.take i)=some l)(hn:dW l ws[i]=none):kM ws=none:=by
 have e:ws=ws.take (i+1)++ws.drop (i+1):=(K9 _ _).symm;rw[e,rO,mE h hl,hn];rfl
variable {n:Nat}{w:List aK}{ls:List Ln}
theorem bC6 (h:nI ls w=some l)(h1:ls.length≤n)(U: ∀x∈ls,x.d.length≤n):l.length≤n∧ ∀x∈l,x.d.length≤n+1:=by
 unfold nI at h;cases hx:ls.getLast? with
 |none=>rw[hx]at h;cases h
 |some x=>
  rw[hx]at h;have hm:=BJ hx;have hp:0<ls.length:=List.length_pos_of_mem hm;dsimp only at h;split at h
  ·
   cases J:eZ (wd w 1)with
   |none=>rw[J]at h;cases h
   |some d=>
    rw[J]at h;obtain rfl:=F6 h;refine⟨by simp;omega,fun y I=>?_⟩;rcases D6.1 I with I|I
    · exact CZ (U y (BK _ I))
    · rw[E5.1 I];have:=U x hm;simp[mD];omega
  · cases h
variable {x:Ln}
theorem cW5 (h:fS w=some x):x.d=[]:=by
 unfold fS at h;split at h
 ·
  rename_i n f _;cases I:iS (wd w 0)with
  |none=>rw[I]at h;cases h
  |some k=>
   rw[I]at h;simp only[J0]at h;split at h
   · cases h
   · obtain rfl:=F6 h;rfl
 · cases h
theorem bZ0 (h:dW ls w=some l)(U:ls.length≤n)(J: ∀x∈ls,x.d.length≤n):l.length≤n+1∧ ∀x∈l,x.d.length≤n+1:=by
 unfold dW at h;split at h
 · have:=bC6 h U J;exact⟨by omega,this.2⟩
 ·
  cases hx:fS w with
  |none=>rw[hx]at h;cases h
  |some x=>
   rw[hx]at h;obtain rfl:=F6 h;refine⟨by simp;omega,fun y I=>?_⟩;rcases D6.1 I with I|I
   · exact CZ (J y I)
   · rw[E5.1 I,cW5 hx];simp
theorem xN {ws:List (List aK)}: ∀{i:Nat} {l:List Ln},i≤ws.length→kM (ws.take i)=some l→l.length≤i∧ ∀x∈l,x.d.length≤i
 |0,l,_,h=>by
  rw[P5,aO4]at h;obtain rfl:=F6 h;simp
 |i+1,l,hi,h=>by
  cases hp:kM (ws.take i)with
  |none=>
   have e:ws.take (i+1)=ws.take i++[ws[i]]:=A5 (by omega);rw[e,rO,hp]at h;cases h
  |some m=>
   have hm:=xN (i:=i) (by omega) hp;rw[mE (by omega) hp]at h;exact bZ0 h hm.1 hm.2
theorem aE9 (hw:wd w 0≠wDoc):dW l w=(fS w).map fun x=>l++[x]:=A7 hw
theorem bC7 (hw:wd w 0=wDoc):dW [] w=none:=by unfold dW;rw[B1 hw];rfl
theorem xO (hw:wd w 0=wDoc):dW (l++[x]) w=if x.k=1∧w.length=2 then(eZ (wd w 1)).map fun d=>l++[mD x d]else none:=by
 unfold dW nI;rw[B1 hw];simp
theorem qO (hw:wd w 0=wDoc)(h:x.k≠1∨w.length≠2∨(eZ (wd w 1)).isSome=false):dW (l++[x]) w=none:=by
 rw[xO hw];split
 ·
  rename_i I;rcases h with h|h|h
  · exact absurd I.1 h
  · exact absurd I.2 h
  ·
   cases J:eZ (wd w 1)with
   |none=>rfl
   |some d=>rw[J]at h;cases h
 · rfl
theorem bC8 {d:Dig}(hw:wd w 0=wDoc)(U:x.k=1)(I:w.length=2)(J:eZ (wd w 1)=some d):dW (l++[x]) w=some (l++[mD x d]):=by
 rw[xO hw,B1 ⟨U,I⟩,J];rfl
end Go.Pl
