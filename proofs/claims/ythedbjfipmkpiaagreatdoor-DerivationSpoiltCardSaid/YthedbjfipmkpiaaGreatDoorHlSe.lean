/- HL: slices.SortFunc at rows of digests: a permutation, and in order; the contract out of the shelf's. By an AI agent. -/
import Derived.Shelf.GgSortFunc.InsertionK
import Derived.Sort.Statements
import Derived.Shelf.RegionOpenPlain
import Derived.Deep.LoopGhost
import Derived.Lib.Walk
import Derived.Lib.SliceRun
import Derived.Shelf.SlSortCmp.InsertionK
import Derived.Deep.QuietTactic
import Derived.BigQuiet
import Derived.Test.YthedbjfipmkpiaaGreatDoorHdUj
set_option maxRecDepth 100000
set_option maxHeartbeats 16000000
set_option linter.unusedSimpArgs false
set_option linter.unusedVariables false
set_option linter.defProp false
namespace Go.Hl
open Go Go.RowKit Go.Sort Go.Pl Go.Proofs
def eY (d:Dig):List Value:=d.1.map fun b=> .int .u8 b.toNat
theorem oH (d:Dig):(eY d).length=32:=by simp[eY,d.2]
instance :Inhabited Dig:=⟨zdg⟩
theorem aG8 {w:World}{O:Nat→Prop}: ∀{l:List UInt8} {xs:List Value},RepL w O (l.map fun b=>CV.int .u8 b.toNat) xs↔xs=l.map fun b=>Value.int .u8 b.toNat
 |[],xs=>by simp only[F2,RepL]
 |b::l,xs=>by
  simp only[B8,RepL,RepC,aG8];constructor
  · rintro⟨J,I,rfl,rfl,rfl⟩;rfl
  · rintro rfl;exact⟨_,_,rfl,rfl,rfl⟩
theorem oI {w:World}{O:Nat→Prop}: ∀{l:List Dig} {xs:List Value},RepL w O (l.map dg) xs↔xs=l.flatMap eY
 |[],xs=>by simp only[F2,RepL,I9]
 |d::l,xs=>by
  have e: ∀c,RepC w O (dg d) c↔c=eY d:=fun c=>by simp only[dg,dgl,RepC,aG8,eY]
  simp only[B8,RepL,G3,oI,e];constructor
  · rintro⟨J,I,rfl,rfl,rfl⟩;rfl
  · rintro rfl;exact⟨_,_,rfl,rfl,rfl⟩
theorem vZ (l:List Dig):(l.flatMap eY).length=l.length*32:=by
 induction l with
 |nil=>rfl
 |cons d l I=>rw[G3,A3,oH,I,A8];omega
theorem bE2 : ∀(l:List Dig) (t:Nat) (h:t<l.length*32),(l.flatMap eY)[t]? =(eY (l.toArray[t/32]!))[t%32]?
 |[],t,h=>by simp at h
 |d::l,t,h=>by
  rw[G3];by_cases I:t<32
  · rw[M7 (by rw[oH];exact I),Nat.div_eq_of_lt I,AG I];simp
  · rw[L6 (by rw[oH];omega),oH,bE2 l (t-32) (by simp only[A8]at h;omega)];obtain⟨s,rfl⟩: ∃s,t=s+32:=⟨t-32,by omega⟩;rw[N9,Nat.add_mod_right,Nat.add_div_right _ (by omega)];simp
theorem aG9 (l:List Dig):(flatK eY 32 l.toArray).toList=l.flatMap eY:=by
 apply V5;intro t;by_cases I:t<l.length*32
 ·
  rw[bE2 l t I,N2,O9 (by simpa using I)];have U:=get_flatK eY 32 l.toArray t (by simpa using I);rw[AP _ t (by simpa using I)]at U;rw[U];have J:t%32<(eY l.toArray[t/32]!).length:=by rw[oH];omega
  rw[A9 J,AP (eY l.toArray[t/32]!) (t%32) J]
 · rw[I5 (by simp;omega),I5 (by rw[vZ];omega)]
theorem aH0 (F cur:Array Value)(h:F.size≤cur.size):(putCells id 0 F cur).toList.take F.size=F.toList:=by
 apply V5;intro i;by_cases hi:i<F.size
 ·
  rw[M3,B1 hi];have I:i<cur.size:=by omega
  simp only[putCells,N2,Array.getElem?_mapIdx,O9 I,I2,O9 hi];simp[hi]
 · rw[M3,A7 hi,I5 (by simpa using hi)]
end Go.Hl
namespace Go.Hl
open Go Go.RowKit Go.Sort Go.Pl
theorem aV3 {P:Program}{f:FuncId}{e:TypeId}{l:List Dig}(af:fC P f=true)(ak:l.length*32≤140737488355328)
  (hc: ∀(b off c:Nat) (w:World),(∀j u,(l.flatMap eY)[j]? =some u→w.cell? ⟨b,off+j,none⟩=some u)→Calls P f #[.slice (some ⟨b,off,none⟩) l.length c] w fun x w'=> ∃J,x= .returned J∧w'.ownsRow w.heap.size e 32 J l.length (l.flatMap eY)∧J≠ .slice none 0 0∧Below w.heap.size w w')
  (aj: ∀(c:Nat) (w:World),Calls P f #[.slice none 0 c] w fun x w'=>x= .returned (.slice none 0 0)∧w'=w)
  (ag: ∀(a:Addr) (c:Nat) (w:World),Calls P f #[.slice (some a) 0 c] w fun x w'=> ∃J,x= .returned J∧w'.ownsRow w.heap.size e 32 J 0 []∧J≠ .slice none 0 0∧Below w.heap.size w w'):
  bM P f [.slc (l.map dg)] (fun v=>v= .slc (l.map dg)):=by
 refine⟨uA af,fun w ρ X xs hS hA hX=>Does.of af ?_⟩;have done: ∀(w':World) (v:Value),w'.ownsRow w.heap.size e 32 v l.length (l.flatMap eY)→Below w.heap.size w w'→ ∃r ob' ρ' x,Ending.returned v= .returned x∧(∃u,r=HV.c u∧u= .slc (l.map dg)∧ob'=cZ)∧Gave w ρ X 0 r ob' w' ρ' x:=by
  intro w' v hrow hb;have ae:Stay2 w (Own ρ) w' (Own ρ):=⟨fun g hg _=>hb.block g hg,fun _ h=> .inl h,hb.size,hb.os,hb.tape,hb.output⟩;have ao:=ae.stay X;refine⟨_,_,ρ,v,rfl,⟨_,rfl,rfl,rfl⟩,⟨?_,⟨fun i o ho=>by simp[cZ]at ho,hS.none,hS.apart,hS.xb⟩,by simp[HV.men],fun i o ho=>by simp[cZ]at ho,ae,Moves.refl _ _⟩⟩;have ah:Value.isAgg' v=false:=by rcases hrow.2 with⟨rfl,_⟩|⟨g,cap,cur,rfl,_⟩<;>rfl
  refine bQ ?_ rfl ah;simp only[RepC];rcases hrow.2 with⟨rfl,hz⟩|⟨g,cap,cur,rfl,aq,hg,ab,_⟩
  · have:l=[]:=D3 hz;exact⟨none,0,[],32,by simp[this],by simp[this,RepL],by simp[this],by simp[this],fun _=>rfl,fun ad aa=>(by cases aa)⟩
  ·
   refine⟨some ⟨g,0,none⟩,cap,l.flatMap eY,32,by simp,oI.2 rfl,fun u hu=>?_,by simp;exact ab,fun hh=>(by cases hh),fun ad aa=>?_⟩
   · obtain⟨k,_,rfl⟩:=H0.1 hu;exact dg_cells k
   ·
    cases aa;refine⟨hrow.cells (g:=g) rfl,fun _=>?_⟩;rintro(hx|⟨i,L,h1,h2⟩)
    · have:g<w.heap.size:=hX g hx;omega
    · have:g<w.heap.size:=Owned.lt hS h1 h2;omega
 simp only[B8,F2,bJ,RepHV]at hA;obtain⟨x,zs,rfl,hx,rfl⟩:=hA;have h1:=RepV.single hx rfl;simp only[RepC,F8,J9]at h1;obtain⟨a,cap,ys,sz,rfl,h2,_,h4,h5,h6⟩:=h1;have ai:=oI.1 h2;subst ai;simp only[A0];cases a with
 |none=>
  have hz:=h5 rfl;have U:l=[]:=by
   refine D3 ?_;simp only[A0]at h4;omega
  subst U;refine(aj cap w).mono ?_;rintro ex w' ⟨rfl,rfl⟩;exact done w' _ ⟨rfl,.inl ⟨rfl,rfl⟩⟩ (Below.refl _ _)
 |some ad=>
  have hr:=(h6 ad rfl).1;by_cases U:l=[]
  · subst U;refine(ag ad cap w).mono ?_;rintro ex w' ⟨J,rfl,hrow,_,hb⟩;exact done w' J hrow hb
  ·
   have an:0<l.length:=J8.2 U;have I:ad.spot=none:=by
    obtain⟨u,hu⟩: ∃u,(l.flatMap eY)[0]? =some u:=⟨(l.flatMap eY)[0]'(by rw[vZ];omega),A9 _⟩;have:=hr 0 u hu;simp only[World.cell?]at this;split at this
    ·
     split at this
     · cases this
     · rename_i hh;simpa[Addr.add]using hh
    · cases this
   obtain⟨b,off,spot⟩:=ad;simp only at I;subst I;refine(hc b off cap w fun j u hj=>?_).mono ?_
   ·
    have:=hr j u hj;have e:(⟨b,off,none⟩:Addr).add j=⟨b,off+j,none⟩:=by
     by_cases h0:j=0
     · subst h0;rfl
     · simp[Addr.add,h0]
    rwa [e]at this
   · rintro ex w' ⟨J,rfl,hrow,_,hb⟩;exact done w' J hrow hb
end Go.Hl
namespace Go.Proofs.YthedbjfipmkpiaaGreatDoor
open Go Go.Hl Go.Pl Go.Sort Go.RowKit Go.Lib
set_option maxHeartbeats 16000000 in
theorem bE3 (news:List Value)(n b off c:Nat)(w:World)(hl:news.length=n*32)(ab:n*32≤140737488355328)(h1: ∀u∈news,u.oneCell'=true)(hc: ∀j u,news[j]? =some u→w.cell? ⟨b,off+j,none⟩=some u):
  Calls Tryz.prog 104 #[.slice (some ⟨b,off,none⟩) n c] w fun e w'=> ∃U,e= .returned U∧w'.ownsRow w.heap.size 44 32 U n news∧U≠ .slice none 0 0∧Below w.heap.size w w':=by
 obtain⟨i0,hi,hz⟩:=C9.1 (show(Tryz.prog.info? 44).map (fun i=>(i.zero,i.size,i.bytes))=some (some (.agg (Array.replicate 32 (.int .u8 0))),32,32)from by kernel_rfl);simp only[Z7]at hz;have ad: ∀(w:World) (a:Option Addr) (n c n' c':Nat),(binOp .eql 39 (.slice a n c) (.slice none n' c')).run Tryz.prog w= .ok (.bool a.isNone) w:=fun w a n c n' c'=>Lib.run_eql_slice_nil w _ _ a n c n' c' Tryz.underlying39;have A:Aside (∀j u,news[j]? =some u→w.cell? ⟨b,off+j,none⟩=some u):=hc;clear hc
 go_enter Tryz.func104,Tryz.ntmps104
 go_wp2_with (at_builtin;refine wpList_append_own _ rfl _ _ 39 rfl w.heap.size 44 i0 (.agg (Array.replicate 32 (.int .u8 0))) 32 32 Tryz.underlying39 hi hz.1 hz.2.1 hz.2.2 rfl (by decide) _ _ _ rfl (World.ownsRow_made w #[] 0 (Nat.le_refl _) (Nat.zero_le _) rfl) ⟨b,off,none⟩ n c news rfl hl ?qc2 h1 ?qc4 ?qc5 ?qc6 ?_)
 case qc2=>
  intro j u hj;rw[Addr.add_lit];exact Lib.cell?_alloc_some _ (A.out j u hj)
 case qc4=>unfold maxLen;omega
 case qc5=>omega
 case qc6=>simp
 intro U w1 J I aa
 go_wp2
 go_ret
 refine⟨U,rfl,by simpa using J,?_,?_⟩
 · exact aa
 exact((Below.refl _ w).alloc (E3 _) _).grown I (by simp) (by intro k hk;simp[Value.ownBlock]at hk;omega)
set_option maxHeartbeats 1000000 in
theorem cA3 (c:Nat)(w:World):Calls Tryz.prog 104 #[.slice none 0 c] w fun e w'=>e= .returned (.slice none 0 0)∧w'=w:=by
 have U: ∀(w:World) (a:Option Addr) (n c I J:Nat),(binOp .eql 39 (.slice a n c) (.slice none I J)).run Tryz.prog w= .ok (.bool a.isNone) w:=fun w a n c I J=>Lib.run_eql_slice_nil w _ _ a n c I J Tryz.underlying39
 go_enter Tryz.func104,Tryz.ntmps104
 go_wp2
 go_ret
 exact⟨rfl,rfl⟩
set_option maxHeartbeats 16000000 in
theorem bL5 (a:Addr)(c:Nat)(w:World):Calls Tryz.prog 104 #[.slice (some a) 0 c] w fun e w'=> ∃v',e= .returned v'∧w'.ownsRow w.heap.size 44 32 v' 0 []∧v'≠ .slice none 0 0∧Below w.heap.size w w':=by
 obtain⟨i0,hi,hz⟩:=C9.1 (show(Tryz.prog.info? 44).map (fun i=>(i.zero,i.size,i.bytes))=some (some (.agg (Array.replicate 32 (.int .u8 0))),32,32)from by kernel_rfl);simp only[Z7]at hz;have aa: ∀(w:World) (a:Option Addr) (n c n' c':Nat),(binOp .eql 39 (.slice a n c) (.slice none n' c')).run Tryz.prog w= .ok (.bool a.isNone) w:=fun w a n c n' c'=>Lib.run_eql_slice_nil w _ _ a n c n' c' Tryz.underlying39
 go_enter Tryz.func104,Tryz.ntmps104
 go_wp2_with (at_builtin;refine wpList_append_own _ rfl _ _ 39 rfl w.heap.size 44 i0 (.agg (Array.replicate 32 (.int .u8 0))) 32 32 Tryz.underlying39 hi hz.1 hz.2.1 hz.2.2 rfl (by decide) _ _ _ rfl (World.ownsRow_made w #[] 0 (Nat.le_refl _) (Nat.zero_le _) rfl) a 0 c [] rfl rfl (by intro j u hj;simp at hj) (by intro u hu;cases hu) (by unfold maxLen;omega) (by omega) (by simp) ?_)
 intro v' w1 U J I
 go_wp2
 go_ret
 refine⟨v',rfl,by simpa using U,?_,?_⟩
 · first|exact I|(intro e;exact absurd (I.1 e).1 (by simp))
 exact((Below.refl _ w).alloc (E3 _) _).grown J (by simp) (by intro k hk;simp[Value.ownBlock]at hk;omega)
theorem cA4 (l:List Dig)(hl:l.length<2^42):bM Tryz.prog 104 [.slc (l.map dg)] (fun v=>v= .slc (l.map dg)):=
 aV3 (e:=44) (by kernel_rfl) (by omega) (fun b off c w I=>bE3 (l.flatMap eY) l.length b off c w (vZ l) (by omega) (fun u hu=>by
  obtain⟨d,_,hu⟩:=K3.1 hu;obtain⟨x,_,rfl⟩:=H0.1 hu;rfl) I) cA3 bL5
end Go.Proofs.YthedbjfipmkpiaaGreatDoor
namespace Go.Proofs.YthedbjfipmkpiaaGreatDoor
open Go Go.Hl Go.Pl
theorem cX9 (n:Nat)(ob:Ob)(e:TypeId)(sz:Nat)(v:HV)(L:List CV)(t:TypeId):iL (sub [0,1] n) ob 0 [.box t v,.row e sz L]=upd (upd ob 0 (some ((HO.box t v).ren (sub [0,1] n)))) 1 (some (.row e sz L)):=rfl
theorem zU (n:Nat)(ob:Ob)(l:List Nd)(S:List Sp)(W:List Ln)(m:Nat):iL (sub [0,1] n) ob 0 (osP l S W m)=upd (upd ob 0 (some (.box 80 (pvb l S (cI 1 W.length 4 m))))) 1 (some (.row 41 4 (W.map Ln.cv))):=by
 rw[cX9];simp[pvb,lP,sub]
theorem zV (n:Nat)(t:TypeId)(l:List Nd)(S:List Sp)(a m:Nat):(HO.box t (pvb l S (cI 1 a 4 m))).ren (sub [0,1] n)= .box t (pvb l S (cI 1 a 4 m)):=by
 simp[pvb,lP,sub]
variable {l:List Nd}{ob:Ob}
theorem mK {a0 b0:CV}{S:List Sp}{W:List Ln}{m:Nat}{u:HV}{R:HV→List HO→Prop}(hr:u= .tup [.c a0,.c b0])(U:ob 0=some (.box 80 (pvb l S (cI 1 W.length 4 m))))(J:ob 1=some (.row 41 4 (W.map Ln.cv)))(hR:R (.tup [.c a0.denil,.c b0.denil]) (osP l S W m)):
  gR 2 u ob (fun r ob'=> ∃I,ob'=lst I∧(2≤I.length∧I.length≤2+4)∧R r I):=by
 subst hr;refine eM [] [] (.tup [.c a0.denil,.c b0.denil]) (osP l S W m) (by simp) (by simp) ⟨⟨by simp[pvb,cA],by simp,_,U,?_⟩,⟨by simp,by simp,_,J,rfl⟩,trivial⟩ rfl N3 (by simp) (by simp) hR;simp[pvb,vY m W.length J,denilL_Nd,dJ,denilL_Sp,nU,aS,tP,lP,tau]
theorem bL6 (l:List Nd)(h:l.length<2^40):(eB l).length<2^40:=by
 unfold eB;split
 · rw[iO];have:=bO3 l;omega
 simp
theorem dB8 (n:Nat)(v:CV):HV.ren (sub [0,1] n) (.c v)= .c v:=rfl
theorem cO0 (l:List Nd)(ah:eJ l=true)(S:List Sp)(hS:S.length<2^40)(hd: ∀x∈S,x.d.length<2^42)(W:List Ln)(m i:Nat)(hm:m≤W.length)(hW:W.length<2^39)(hi:i<l.length)(hk:l[i].k=1):
  HGe Tryz.prog 74 [.ptr 0 0,.c (.int .i64 i)] (osP l S W m) (fun r ae=>r= .tup [.c (.int .i64 (if(S.getD (lv (l.take i)) sp0).h then m else 0)),.c (.bool (S.getD (lv (l.take i)) sp0).h)]∧ae=if(S.getD (lv (l.take i)) sp0).h then osP l S (qQ W m (lD l S i)) (m+1)else osP l S W m):=by
 refine bO (args:=[.ptr 0 0,.c (.int .i64 i)]) Tryz.func74 rfl (by kernel_rfl) (dQ rfl (by simp[pvb,cV,cA]) (by simp)) (C7 rfl) ?_;show Hw _ _ 2 _ _ _ (lst _) 2;rw[cN9];have af:eB l=fB 0 l:=mI ah;have ag:=bC9 hi hk;have ai:=(fN ah).len;obtain⟨k,ad⟩: ∃k,k=lv (l.take i):=⟨_,rfl⟩;rw[←ad]at ag;have ab:lD l S i=⟨1,i,(S.getD k sp0).d,[]⟩:=by rw[lD,←ad]
 rw[←ad,ab];refine R0 ?_;refine aC fun K U=>Rg ?_;iterate 5 refine S0 ?_ (e:=fun _ h_=>by simp only[sH,↓sP,sA,tyS,simprocAttr,pvb,bD,aT,aS,dJ,denilL_dg];exact AX h_)
 refine HS rfl rfl fun K' J=>?_;simp only[sH,↓sP,sA,tyS,simprocAttr,pvb,bD,aT,aS,dJ,denilL_dg];refine C2 (cA2 (eB l) i (bL6 l (by omega))) ?_;rintro u hu;obtain rfl:=hu k (fun j hj h=>by rw[af]at h;have:=bZ4 hi hk h;omega) (by rw[af];exact ag);refine AX (J _ _ ?_);clear J K';refine S0 ?_ (e:=fun _ h_=>by simp only[sH,↓sP,sA,tyS,simprocAttr,pvb,bD,aT,aS,dJ,denilL_dg];exact AX h_);refine T2 (U _ _ _ ?_);clear U K;refine aC fun K U=>?_;by_cases I:k<S.length
 ·
  have hg:S.getD k sp0=S[k]:=by simp[B4,I]
  have aa:decide ((k:Int)≥(S.length:Int))=false:=by simp;omega
  refine RS ?_;iterate 18 refine S0 ?_ (e:=fun _ h_=>by simp only[sH,↓sP,sA,tyS,simprocAttr,pvb,bD,aT,aS,dJ,denilL_dg,aa,A1,A4,I,aW I];exact AX h_)
  refine RE ?_;refine aJ (b:=!S[k].h) rfl (fun hb=>?_) (fun hb=>?_)
  ·
   have hh:S[k].h=false:=by simpa using hb
   refine R0 ?_;refine aE (RT Tryz.results74 ?_);exact mK (W:=W) (m:=m) rfl rfl rfl ⟨by rw[hg,hh];rfl,by rw[hg,hh];rfl⟩
  have hh:S[k].h=true:=by simpa using hb
  refine aG ?_;refine T0 (U _ _ _ ?_);clear U K;refine aC fun K U=>Rg ?_;iterate 10 refine S0 ?_ (e:=fun _ h_=>by simp only[sH,↓sP,sA,tyS,simprocAttr,pvb,bD,aT,aS,dJ,denilL_dg,A1,A4,I,aW I];exact AX h_)
  refine HS rfl rfl fun K' J=>?_;simp only[sH,↓sP,sA,tyS,simprocAttr,pvb,bD,aT,aS,dJ,denilL_dg,A1,A4,I,aW I];refine C1 (cA4 S[k].d (hd _ (B5 I))) ?_;rintro u rfl;refine AX (J _ _ ?_);clear J K';refine S0 ?_ (e:=fun _ h_=>by simp only[sH,↓sP,sA,tyS,simprocAttr,pvb,bD,aT,aS,dJ,denilL_dg,A1,A4,I,aW I];exact AX h_);refine HS rfl rfl fun K' J=>?_;simp only[sH,↓sP,sA,tyS,simprocAttr,pvb,bD,aT,aS,dJ,denilL_dg,A1,A4,I,aW I];refine dR [0,1] (aV2 l S W m ⟨1,i,S[k].d,[]⟩ hm (by omega)) rfl ⟨(by rw[zV];rfl),rfl,trivial⟩ (by simp) (by simp) ⟨rfl,rfl,rfl,rfl⟩ (by simp[cV,cA]) (by simp) ?_;rintro r ae ⟨rfl,rfl⟩;rw[zU,dB8];refine AX (J _ _ ?_);clear J K';iterate 2 refine S0 ?_ (e:=fun _ h_=>by simp only[sH,↓sP,sA,tyS,simprocAttr,pvb,bD,aT,aS,dJ,denilL_dg,A1,A4,I,aW I];exact AX h_)
  refine T2 (U _ _ _ ?_);clear U K;refine aE (RT Tryz.results74 ?_);exact mK (W:=qQ W m ⟨1,i,S[k].d,[]⟩) (m:=m+1) rfl rfl rfl ⟨by rw[hg,hh];rfl,by rw[hg,hh];rfl⟩
 have hg:S.getD k sp0=sp0:=by simp[B4,I]
 have aa:decide ((k:Int)≥(S.length:Int))=true:=by simp;omega
 refine RS ?_;iterate 18 refine S0 ?_ (e:=fun _ h_=>by simp only[sH,↓sP,sA,tyS,simprocAttr,pvb,bD,aT,aS,dJ,denilL_dg,aa];exact AX h_)
 refine RE ?_;refine CT rfl ?_;refine R0 ?_;refine aE (RT Tryz.results74 ?_);exact mK (W:=W) (m:=m) rfl rfl rfl ⟨by rw[hg];rfl,by rw[hg];rfl⟩
def dL1 (l:List Nd)(S:List Sp)(f i:Nat)(W:List Ln)(m:Nat)(r:HV)(os':List HO):Prop:=
 ∃(W':List Ln) (m':Nat),r= .tup [.c (.int .i64 (if dZ l (cJ S) i then(m':Int)-1 else 0)),.c (.bool (dZ l (cJ S) i))]∧os'=osP l S W' m'∧m'≤W'.length∧W'.length≤W.length+(aft l i-i)∧W'.take m'=if dZ l (cJ S) i then prv l S f i (W.take m)else W.take m
theorem cO1 (n:Nat)(a b:CV):HV.ren (sub [0,1] n) (.tup [.c a,.c b])= .tup [.c a,.c b]:=rfl
theorem aV4 (id n sz m:Nat){cl:List Nat}(h:id∉cl):(cI id n sz m).close ob cl=cI id n sz m:=by
 unfold cI;split<;>simp[h]
theorem aH1 {l:List Nd}(I:IsTree l){i:Nat}(hi:i<l.length){j:Nat}: ∀d,j+d≤l[i].c.toNat→cF l j (i+1)≤cF l (j+d) (i+1)
 |0,_=>E3 _
 |d+1,h=>by
  have J:=aH1 I hi (j:=j) d (by omega);have U:=(gL I (jC I hi (k:=j+d) (by omega))).1;rw[←Nat.add_assoc,dB];omega
theorem rV (I:IsTree l){i:Nat}(hi:i<l.length){j:Nat}(h:j≤l[i].c.toNat):cF l j (i+1)≤aft l i:=by
 have J:=aH1 I hi (j:=j) (l[i].c.toNat-j) (by omega);rw[show j+(l[i].c.toNat-j)=l[i].c.toNat from by omega,kP I hi]at J;exact J
theorem aV5 {l:List Nd}{S:List Sp}{f i:Nat}{out:List Ln}: ∀j,(jM l S f i j out).2.length≤j
 |0=>by simp[nS]
 |j+1=>by
  have I:=aV5 (l:=l) (S:=S) (f:=f) (i:=i) (out:=out) j;rw[fI,pJ];split
  · simp only[A3,A8,C0];omega
  omega
structure PvSt (l:List Nd)(S:List Sp)(g i:Nat)(W:List Ln)(m j:Nat)(W':List Ln)(m':Nat)(Fi:List Int):Prop where
 le:m'≤W'.length
 len:W'.length+(i+1)≤W.length+cF l j (i+1)
 out:W'.take m'=(jM l S g i j (W.take m)).1
 fr:Fi=(jM l S g i j (W.take m)).2
theorem xT {l:List Nd}{S:List Sp}{g i:Nat}{out:List Ln}: ∀{j:Nat} (k:Nat),(jM l S g i j out).2.length=wantN (l.getD i nd0)→jM l S g i (j+k) out=jM l S g i j out
 |j,0,_=>rfl
 |j,k+1,h=>by
  have I:=xT (l:=l) (S:=S) (g:=g) (i:=i) (out:=out) k h;rw[←Nat.add_assoc,fI,I,pJ,A7 (fun J=>by omega)]
theorem cO2 (l:List Nd)(ak:eJ l=true)(hn: ∀n∈l,n.q.t.length<2^63)(S:List Sp)(hS:S.length<2^40)(hd: ∀x∈S,x.d.length<2^42)(f:Nat): ∀(W:List Ln) (m i:Nat),i<l.length→l.length-i≤f→m≤W.length→W.length+(aft l i-i)<2^39→
  HGe Tryz.prog 37 [.ptr 0 0,.c (.int .i64 i)] (osP l S W m) (dL1 l S f i W m):=by
 induction f using Nat.strongRecOn with
 |ind f ih=>?_
 intro W m i hi hf hm hW;refine bO (args:=[.ptr 0 0,.c (.int .i64 i)]) Tryz.func37 rfl (by kernel_rfl) (dQ rfl (by simp[pvb,cV,cA]) (by simp)) (C7 rfl) ?_;show Hw _ _ 2 _ _ _ (lst _) 2;rw[cN9];have ht:=fN ak;have hgd:l.getD i nd0=l[i]:=uL hi;have bn:=gL ht hi;obtain⟨g,rfl⟩: ∃g,f=g+1:=⟨f-1,by omega⟩;refine R0 ?_;refine RS ?_;iterate 9 refine S0 ?_ (e:=fun _ h_=>by simp only[sH,↓sP,sA,tyS,simprocAttr,pvb,bD,aT,aS,dJ,A1,A4,hi,aW hi];exact AX h_)
 refine RE ?_;refine aC fun K I=>?_;refine R0 ?_;refine aJ (b:=(l[i].k==1)) rfl (fun U=>?_) (fun U=>?_)
 ·
  have hk:l[i].k=1:=by simpa using U
  have hv:dZ l (cJ S) i=(S.getD (lv (l.take i)) sp0).h:=by rw[oU hi hk,aZ3]
  clear U;refine aC fun K I=>Rg ?_;refine AU ?_;refine HS rfl rfl fun K' J=>T5 ?_;refine dR [0,1] (cO0 l ak S hS hd W m i hm (by omega) hi hk) rfl ⟨(by rw[zV];rfl),rfl,trivial⟩ (by simp) (by simp) ⟨rfl,rfl,rfl,rfl⟩ (by simp[cV,cA]) (by simp) ?_;rintro r aj ⟨rfl,ah⟩;obtain⟨W',m',ay,g1,g2,g3,g4⟩: ∃(W':List Ln) (m':Nat),aj=osP l S W' m'∧(if(S.getD (lv (l.take i)) sp0).h then(m:Int)else 0)=(if dZ l (cJ S) i then(m':Int)-1 else 0)∧m'≤W'.length∧W'.length≤W.length+(aft l i-i)∧W'.take m'=if dZ l (cJ S) i then prv l S (g+1) i (W.take m)else W.take m:=by
   rw[hv];cases hh:(S.getD (lv (l.take i)) sp0).h with
   |true=>
    rw[hh]at ah;refine⟨_,_,ah,by simp,by rw[mJ hm];omega,by rw[mJ hm];omega,?_⟩;rw[xS hm,B1 rfl,lX (by rw[hgd];exact hk)]
   |false=>
    rw[hh]at ah;exact⟨_,_,ah,by simp,hm,by omega,by simp⟩
  subst ay;rw[zU,cO1];refine AX (J _ _ ?_);clear J K';refine AU ?_;refine T2 (I _ _ _ ?_);clear I K;refine aE (RT Tryz.results37 ?_);exact mK (W:=W') (m:=m') rfl rfl rfl ⟨W',m',by rw[←g1,hv];rfl,rfl,g2,g3,g4⟩
 have hk:l[i].k≠1:=by simpa using U
 clear U;have au:=bI9 ht S hi hk;have aq:=ht.node _ (B5 hi);obtain⟨c1,c2,c3,c4⟩:=fM aq;have ao:l[i].k=2∨l[i].k=3∨(l[i].k=4∧1≤l[i].n):=by
  unfold dK inB at aq;grind
 have bo:=c4 hk;refine aG ?_;refine T0 (I _ _ _ ?_);clear I K;refine aC fun K I=>QR ?_;refine AU ?_;refine T2 (I _ _ _ ?_);clear I K;refine aC fun K I=>?_;have key: ∀fr ob nx,Fits 2 fr ob (fin [(0,.ptr 0 0),(1,.c (.int .i64 i)),(7,.c (.int .i64 (eW l[i]))),(8,.c (.int .i64 (wantN l[i]:Nat)))]) (fob [(0,.box 80 (pvb l S (cI 1 W.length 4 m))),(1,.row 41 4 (W.map Ln.cv))]) 100→K fr ob nx:=by
  rintro fr ob nx hf;refine I _ _ _ (aZ hf ?_);clear hf I K;refine aC fun K I=>?_;have key: ∀fr ob nx,Fits 2 fr ob (fin [(0,.ptr 0 0),(1,.c (.int .i64 i)),(7,.c (.int .i64 (eW l[i]))),(8,.c (.int .i64 (wantN l[i]:Nat))),(9,.c (.int .i64 m))]) (fob [(0,.box 80 (pvb l S (cI 1 W.length 4 m))),(1,.row 41 4 (W.map Ln.cv))]) 200→K fr ob nx:=by
   rintro fr ob nx hf;refine I _ _ _ (aZ hf ?_);clear hf I K;refine R0 ?_;refine aC fun K I=>?_;have key: ∀(W':List Ln) (m':Nat) (Fi:List Int) fr ob nx,PvSt l S g i W m l[i].c.toNat W' m' Fi→Fits 2 fr ob (fin [(0,.ptr 0 0),(1,.c (.int .i64 i)),(7,.c (.int .i64 (eW l[i]))),(8,.c (.int .i64 (wantN l[i]:Nat))),(9,.c (.int .i64 m)),(10,.own 236 Fi.length)]) (fob [(0,.box 80 (pvb l S (cI 1 W'.length 4 m'))),(1,.row 41 4 (W'.map Ln.cv)),(236,.row 3 1 (Fi.map (CV.int .i64)))]) 30000→K fr ob nx:=by
    rintro W' m' Fi fr ob nx aa hf;refine I _ _ _ (aZ hf ?_);clear hf I K;have q1:=aa.le;have q2:=aa.len;have q3:=aa.out;have q4:=aa.fr;rw[kP ht hi]at q2;have q5:=uK l S g i (W.take m) l[i].c.toNat;rw[←q4,hgd]at q5;obtain⟨L,q6⟩:=cL5 l S g i l[i].c.toNat (W.take m);have ba:(W.take m).length=m:=by simp;omega
    have bx:m'=m+L.length:=by
     have h1:=congrArg List.length (q3.trans q6);rw[E1,A3,ba]at h1;omega
    have ar:W'.take m=W.take m:=by
     have h1:(W'.take m').take m=(W.take m++L).take m:=by rw[q3.trans q6]
     rw[R1,M6 (by omega),R5 (by omega),R1,Nat.min_self]at h1;exact h1
    refine aC fun K I=>?_;refine AU ?_;refine aJ (b:=decide ((Fi.length:Int)<(wantN l[i]:Nat))) rfl (fun U=>?_) (fun U=>?_)
    ·
     have ai:dZ l (cJ S) i=false:=by
      rw[au];have:(Fi.length:Int)<(wantN l[i]:Nat):=F9 U;simp;omega
     clear U;by_cases ab:m'=W'.length
     ·
      refine aC fun K I=>aY (by kernel_rfl) ?_;simp only[sR,simprocAttr];iterate 6 refine SG0 ?_ (e:=fun _ h_=>by simp only[sH,↓sP,sA,tyS,simprocAttr,pvb,ab,cL,bD,aT,aS,A0,A6];exact AX h_)
      refine aU (g:=none) rfl rfl fun K' J=>?_;simp only[sN,↓hopH.eq_def,sH,↓sP,sA,tyS,simprocAttr,pvb,ab,cL,bD,aT,aS,A0,A6];refine AX (J _ _ ?_);clear J K';iterate 3 refine SG0 ?_ (e:=fun _ h_=>by simp only[sH,↓sP,sA,tyS,simprocAttr,pvb,ab,cL,bD,aT,aS,A0,A6];exact AX h_)
      refine T2 (I _ _ _ ?_);clear I K;refine R0 ?_;refine aE (RT Tryz.results37 ?_);exact mK (W:=W') (m:=m) rfl rfl rfl ⟨W',m,by rw[ai];rfl,rfl,by omega,by omega,by rw[ai];exact ar⟩
     refine aC fun K I=>aY (by kernel_rfl) ?_;simp only[sR,simprocAttr];iterate 6 refine SG0 ?_ (e:=fun _ h_=>by simp only[sH,↓sP,sA,tyS,simprocAttr,pvb,bX ab,bD,aT,aS,A0,A6,E7];exact AX h_)
     refine aU (g:=none) rfl rfl fun K' J=>?_;simp only[sN,↓hopH.eq_def,sH,↓sP,sA,tyS,simprocAttr,pvb,bX ab,bD,aT,aS,A0,A6,E7];refine AX (J _ _ ?_);clear J K';iterate 3 refine SG0 ?_ (e:=fun _ h_=>by simp only[sH,↓sP,sA,tyS,simprocAttr,pvb,bX ab,bD,aT,aS,A0,A6,E7];exact AX h_)
     refine T2 (I _ _ _ ?_);clear I K;refine R0 ?_;refine aE (RT Tryz.results37 ?_);have bb:m≠W'.length:=by omega
     exact mK (W:=W') (m:=m) rfl (by rw[bX bb];rfl) rfl ⟨W',m,by rw[ai];rfl,rfl,by omega,by omega,by rw[ai];exact ar⟩
    have bt:wantN l[i]≤Fi.length:=by
     have h1:=G7 U;omega
    have aw:dZ l (cJ S) i=true:=by
     rw[au];simp;omega
    clear U;refine aG ?_;refine T0 (I _ _ _ ?_);clear I K;refine bW [236] (aZ (fr2:=fin [(0,.ptr 0 0),(1,.c (.int .i64 i)),(7,.c (.int .i64 (eW l[i]))),(10,.c (.slc (Fi.map (CV.int .i64))))]) (ob2:=fob [(0,.box 80 (pvb l S (cI 1 W'.length 4 m'))),(1,.row 41 4 (W'.map Ln.cv))]) (nx2:=31000) (bA (by omega) (by simp[denilL_int]) (by simp[pvb,aV4,denilL_Nd,dJ,denilL_Sp,tP,aS,cA])) ?_);refine aC fun K I=>Rg ?_;iterate 5 refine S0 ?_ (e:=fun _ h_=>by simp only[sH,↓sP,sA,tyS,simprocAttr,pvb,bD,aT,aS,denilL_int];exact AX h_)
    refine HS rfl rfl fun K' J=>?_;simp only[sH,↓sP,sA,tyS,simprocAttr,pvb,bD,aT,aS,denilL_int];refine dR [0,1] (aV2 l S W' m' ⟨eW l[i],i,[],Fi⟩ q1 (by omega)) rfl ⟨(by rw[zV];rfl),rfl,trivial⟩ (by simp) (by simp) ⟨rfl,rfl,rfl,rfl⟩ (by simp[cV,cA]) (by simp) ?_;rintro r aj ⟨rfl,rfl⟩;rw[zU,dB8];refine AX (J _ _ ?_);clear J K';iterate 2 refine S0 ?_ (e:=fun _ h_=>by simp only[sH,↓sP,sA,tyS,simprocAttr,pvb,bD,aT,aS,denilL_int];exact AX h_)
    refine T2 (I _ _ _ ?_);clear I K;refine aE (RT Tryz.results37 ?_);refine mK (W:=qQ W' m' ⟨eW l[i],i,[],Fi⟩) (m:=m'+1) rfl rfl rfl ⟨_,m'+1,by rw[aw];simp,rfl,by rw[mJ q1];omega,by rw[mJ q1];omega,?_⟩;rw[xS q1,aw,B1 rfl,nT (by rw[hgd];exact hk),hgd,←q4,←q3]
   refine aC fun K I=>Rg ?_;iterate 5 refine S0 ?_ (e:=fun _ h_=>by simp only[sH,↓sP,sA,tyS,simprocAttr,pvb,bD,aT,aS];exact AX h_)
   refine HS rfl rfl fun K' J=>?_;simp only[sH,↓sP,sA,tyS,simprocAttr,pvb,bD,aT,aS];refine C2 (bD7 l hn i) ?_;rintro u rfl;have bj:qA l i=dL l l[i].c.toNat (i+1):=rT ak hi;rw[bj];refine AX (J _ _ ?_);clear J K';iterate 2 refine S0 ?_ (e:=fun _ h_=>by simp only[sH,↓sP,sA,tyS,simprocAttr,pvb,bD,aT,aS];exact AX h_)
   refine T2 (I _ _ _ ?_);clear I K;refine aL ?_;refine eH 10 0 3 1 rfl rfl rfl rfl ?_;refine bB (α:={y:Nat×List Ln×Nat×List Int//y.1≤l[i].c.toNat∧PvSt l S g i W m y.1 y.2.1 y.2.2.1 y.2.2.2}) (fun y=>(fin [(0,.ptr 0 0),(1,.c (.int .i64 i)),(7,.c (.int .i64 (eW l[i]))),(8,.c (.int .i64 (wantN l[i]:Nat))),(9,.c (.int .i64 m)),(10,.own 236 y.1.2.2.2.length),(50,.c (.slc ((dL l l[i].c.toNat (i+1)).map iC))),(51,.c (.int .i64 (l[i].c.toNat:Nat))),(52,.c (.int .i64 y.1.1))],fob [(0,.box 80 (pvb l S (cI 1 y.1.2.1.length 4 y.1.2.2.1))),(1,.row 41 4 (y.1.2.1.map Ln.cv)),(236,.row 3 1 (y.1.2.2.2.map (CV.int .i64)))])) 20000 (fun y=>l[i].c.toNat-y.1.1) ⟨(0,W,m,[]),I1 _,⟨hm,by simp[cF],by rw[nS],by rw[nS]⟩⟩ (fG (by simp[pvb,cA,aS,lM])) ?_;rintro⟨⟨j,W',m',Fi⟩,hj,aa⟩;simp only at hj aa⊢;have q1:=aa.le;have q2:=aa.len;have q3:=aa.out;have q4:=aa.fr;have bk:(dL l l[i].c.toNat (i+1)).length=l[i].c.toNat:=lM l _ _;refine R0 ?_;refine aC fun K I=>?_;refine aJ (b:=decide ((j:Int)<(l[i].c.toNat:Nat))) rfl (fun U=>?_) (fun U=>?_)
   ·
    have af:j<l[i].c.toNat:=by have:=F9 U;omega
    have ag:j<(dL l l[i].c.toNat (i+1)).length:=by rw[bk];exact af
    have bc:(dL l l[i].c.toNat (i+1))[j]=cF l j (i+1):=by
     have h1:=lW l l[i].c.toNat (i+1) (j+1) af;rw[iJ,A5 ag,lW l _ _ _ hj]at h1;simpa using h1
    clear U;have ax:=jC ht hi af;have br:=iK ht hi j (by omega);have bq:=gL ht ax;have ao:=rV ht hi (j:=j+1) (by omega);rw[dB]at ao;have bd:=aV5 (l:=l) (S:=S) (f:=g) (i:=i) (out:=W.take m) j;rw[←q4]at bd;have bf:Fi.length+1≤maxLen:=by simp only[maxLen];omega
    have az:(Fi.length+1)*8≤140737488355328:=by omega
    refine aG ?_;refine T0 (I _ _ _ ?_);clear I K;refine aC fun K I=>?_;refine aL ?_;refine R0 ?_ (e:=fun _ h_=>by simp only[↓sP,sA,tyS,simprocAttr,A1,A4,ag,aW ag,bc,iC];exact AX h_);refine aC fun K I=>?_;refine RS ?_;have F:=@A0.{0,0};refine AU ?_;refine aJ (b:=((Fi.length:Int)==(wantN l[i]:Nat))) rfl (fun U=>?_) (fun U=>?_)
    ·
     refine aV (T3 ?_);clear I K;clear I K;have an:Fi.length=wantN l[i]:=by
      have:(Fi.length:Int)=(wantN l[i]:Nat):=by simpa using U
      omega
     have ad:=xT (l:=l) (S:=S) (g:=g) (i:=i) (out:=W.take m) (j:=j) (l[i].c.toNat-j) (by rw[←q4,hgd];exact an);rw[show j+(l[i].c.toNat-j)=l[i].c.toNat from by omega]at ad;refine key W' m' Fi _ _ _ ⟨q1,?_,by rw[ad];exact q3,by rw[ad];exact q4⟩ (fG (by simp[pvb,cA,aS]));have bp:=rV ht hi hj;rw[kP ht hi];omega
    have bl: ¬(Fi.length:Int)=(wantN l[i]:Nat):=by simpa using U
    refine aG ?_;refine T0 (I _ _ _ ?_);clear I K;refine aC fun K I=>Rg ?_;refine AU ?_;refine HS rfl rfl fun K' J=>T5 ?_;refine dR [0,1] (ih g (by omega) W' m' (cF l j (i+1)) ax (by omega) q1 (by omega)) rfl ⟨(by rw[zV];rfl),rfl,trivial⟩ (by simp) (by simp) ⟨rfl,rfl,rfl,rfl⟩ (by simp[cV,cA]) (by simp) ?_;rintro r aj ⟨W2,m2,rfl,rfl,g2,g3,g4⟩;rw[zU,cO1];refine AX (J _ _ ?_);clear J K';refine AU ?_;refine T2 (I _ _ _ ?_);clear I K;refine R0 ?_;refine aJ (b:=dZ l (cJ S) (cF l j (i+1))) rfl (fun U=>?_) (fun U=>?_)
    ·
     have ae:dZ l (cJ S) (cF l j (i+1))=true:=U;have an:Fi.length<wantN l[i]:=by
      have h1:=uK l S g i (W.take m) j;rw[←q4,hgd]at h1;have:Fi.length≠wantN l[i]:=fun e=>bl (by rw[e]);omega
     have ad:jM l S g i (j+1) (W.take m)=(prv l S g (cF l j (i+1)) (W'.take m'),Fi++[((prv l S g (cF l j (i+1)) (W'.take m')).length:Int)-1]):=by
      rw[fI,pJ,←q3,←q4,B1 ⟨by rw[hgd];exact an,ae⟩]
     rw[B1 ae]at g4;have bg:(prv l S g (cF l j (i+1)) (W'.take m')).length=m2:=by rw[←g4,E1];omega
     rw[bg]at ad;refine Rg ?_;have F:=aI @A0.{0,0} (aI bf az);refine AU ?_;refine T2 (I _ _ _ ?_);clear I K;refine aM (by kernel_rfl) ?_;refine TQ (cW j) ?_;refine⟨⟨(j+1,W2,m2,Fi++[(m2:Int)-1]),af,⟨g2,?_,by rw[ad];exact g4,by rw[ad]⟩⟩,(fG (by simp[pvb,cA,aS,C5,A3,A0,ae])),?_⟩
     · show W2.length+(i+1)≤W.length+cF l (j+1) (i+1);rw[dB];omega
     show l[i].c.toNat-(j+1)<l[i].c.toNat-j;omega
    have ae:dZ l (cJ S) (cF l j (i+1))=false:=U;refine aG ?_;refine T0 (I _ _ _ ?_);clear I K;refine aM (by kernel_rfl) ?_;refine TQ (cW j) ?_;refine⟨⟨(j+1,W2,m2,Fi),af,⟨g2,?_,?_,?_⟩⟩,(fG (by simp[pvb,cA,aS])),?_⟩
    · show W2.length+(i+1)≤W.length+cF l (j+1) (i+1);rw[dB];omega
    · rw[fI,pJ,A7 (fun hc=>by rw[ae]at hc;cases hc.2),←q3];rw[ae]at g4;exact g4
    · rw[fI,pJ,A7 (fun hc=>by rw[ae]at hc;cases hc.2)];exact q4
    show l[i].c.toNat-(j+1)<l[i].c.toNat-j;omega
   refine aV (T3 ?_);clear I K;have bh:j=l[i].c.toNat:=by have:=G7 U;omega
   subst bh;exact key W' m' Fi _ _ _ aa (fG (by simp[pvb,cA,aS]))
  by_cases ab:m=W.length
  ·
   refine Rg ?_;iterate 6 refine S0 ?_ (e:=fun _ h_=>by simp only[sH,↓sP,sA,tyS,simprocAttr,pvb,ab,cL,A0];exact AX h_)
   refine T4 ?_;exact key _ _ _ (fG (by simp[pvb,cA,aS,ab,cL]))
  have bm:0<W.length:=by omega
  refine Rg ?_;iterate 6 refine S0 ?_ (e:=fun _ h_=>by simp only[sH,↓sP,sA,tyS,simprocAttr,pvb,bX ab,A0,bm,hm,I1,E1,G8,H6,M6 hm];exact AX h_)
  refine T4 ?_;exact key _ _ _ (fG (by simp[pvb,cA,aS,bX ab]))
 refine R0 ?_;refine aL ?_;refine R0 ?_;refine aJ (b:=(l[i].k==3)) rfl (fun U=>?_) (fun U=>?_)
 ·
  refine aM (by kernel_rfl) ?_;simp only[↓sP,sA,tyS,simprocAttr];have h3:l[i].k=3:=by simpa using U
  have e1:eW l[i]=3:=by unfold eW;rw[A7 (by omega),B1 h3]
  have e2:wantN l[i]=1:=by unfold wantN;rw[A7 (by omega),B1 h3]
  exact key _ _ _ (fG (by simp[pvb,cA,aS,e1,e2]))
 have bu:l[i].k≠3:=by simpa using U
 refine R0 ?_;refine aJ (b:=(l[i].k==4)) rfl (fun U=>?_) (fun U=>?_)
 ·
  refine QW ?_;simp only[sR,simprocAttr];refine AU ?_;refine T4 ?_;have h4:l[i].k=4:=by simpa using U
  have h5:1≤l[i].n:=by omega
  have e1:eW l[i]=4:=by unfold eW;rw[A7 (by omega),A7 (by omega)]
  have e2:l[i].n=(wantN l[i]:Nat):=by unfold wantN;rw[A7 (by omega),A7 (by omega)];omega
  exact key _ _ _ (fG (by simp[pvb,cA,aS,e1,←e2]))
 refine aG (T3 ?_);have h4:l[i].k=2:=by simp at U;omega
 have e1:eW l[i]=2:=by unfold eW;rw[B1 h4]
 have e2:l[i].c=(wantN l[i]:Nat):=by unfold wantN;rw[B1 h4];omega
 exact key _ _ _ (fG (by simp[pvb,cA,aS,e1,←e2]))
theorem dL2 (a b n:Nat)(ob:Ob)(x y:HO):iL (sub [a,b] n) ob 0 [x,y]=upd (upd ob a (some (x.ren (sub [a,b] n)))) b (some (y.ren (sub [a,b] n))):=rfl
theorem bE4 (a b n:Nat)(ob:Ob)(l:List Nd)(S:List Sp)(W:List Ln)(m:Nat):iL (sub [a,b] n) ob 0 (osP l S W m)=upd (upd ob a (some (.box 80 (pvb l S (cI b W.length 4 m))))) b (some (.row 41 4 (W.map Ln.cv))):=by
 rw[dL2];simp[pvb,lP,sub]
theorem bE5 (a b n:Nat)(t:TypeId)(l:List Nd)(S:List Sp)(k m:Nat):(HO.box t (pvb l S (cI 1 k 4 m))).ren (sub [a,b] n)= .box t (pvb l S (cI b k 4 m)):=by
 simp[pvb,lP,sub]
theorem cY0 (a b n:Nat)(x y:CV):HV.ren (sub [a,b] n) (.tup [.c x,.c y])= .tup [.c x,.c y]:=rfl
theorem dG5 (a b n:Nat)(x:CV):HV.ren (sub [a,b] n) (.c x)= .c x:=rfl
theorem bL7 {id n m:Nat}{e:TypeId}{L:List CV}(h:ob id=some (.row e 4 L))(hn:n=L.length)(hm:m≤n):(cI id n 4 m).close ob [id]= .c (.slc (L.take m)):=by
 unfold cI;split
 · rename_i I;rw[HV.close,B1 (by simp)];simp only[h];rw[B1 hn,I,hn,C6]
 rename_i I;rw[HV.close,B1 (by simp)];simp only[h];rw[B1 ⟨hn,by omega,trivial,by omega,hm⟩];rfl
theorem cA5 (id n sz m:Nat):HV.getAt 0 1 false (cI id n sz m)=some (cI id n sz m):=by unfold cI;split<;>rfl
theorem cO3 (l:List Nd)(hn: ∀n∈l,n.q.t.length<2^63)(S:List Sp)(hS:S.length<2^40)(hd: ∀x∈S,x.d.length<2^42):fH Tryz.prog 14 [.slc (l.map Nd.cv),.slc (S.map Sp.cv)] (fun u v=>u= .slc ((eL l S).map Ln.cv)∧v= .bool (eV l (cJ S))):=by
 have ad:(cJ S).length<2^63:=by unfold cJ;rw[A0];omega
 refine FW Tryz.func14 ?_;refine R0 ?_;refine aC fun K U=>?_;refine RS ?_;have F:=aI @denilL_Sp (aI @denilL_Nd @jY);refine AU ?_;refine SCF (cN8 S hS) ?_;refine SCF (cX8 l hn (cJ S) ad) ?_;refine AU ?_;refine aJ (b:=!eV l (cJ S)) rfl (fun hb=>?_) (fun hb=>?_)
 ·
  refine R0 ?_;refine aE (RT Tryz.results14 ?_);have I:eV l (cJ S)=false:=by simpa using hb
  exact aO [] (.slc []) (.bool false) (by simp) ⟨by rw[eL,I];rfl,by rw[I]⟩
 have I:eV l (cJ S)=true:=by simpa using hb
 clear hb;have ab:eJ l=true:=by
  unfold eV at I;rw[B3]at I;exact I.1
 have hv:dZ l (cJ S) 0=true:=by
  unfold eV at I;rw[B3]at I;exact I.2
 have ht:=fN ab;have hlen:=ht.len;have aa:0<l.length:=ht.ne;refine aG ?_;refine T0 (U _ _ _ ?_);clear U K;refine RS ?_;have F:=aI @denilL_Sp @denilL_Nd;refine AU ?_;refine SCF (xQ l hn) ?_;refine AU ?_;refine dV 48 3 41 4 rfl rfl rfl rfl ?_;refine aC fun K U=>Rg ?_;refine S0 ?_ (e:=fun _ h_=>by simp only[sH,↓sP,sA,tyS,simprocAttr,pvb];exact AX h_);refine HS rfl rfl fun K' J=>?_;simp only[sH,↓sP,sA,tyS,simprocAttr,pvb];refine dR [48,56] (cO2 l ab hn S hS hd l.length [] 0 0 aa (by omega) (by simp) (by have:=(gL ht aa).2.1;simp only[C0];omega)) rfl ⟨(by rw[bE5];rfl),rfl,trivial⟩ (by simp) (by simp) ⟨rfl,rfl,rfl,rfl⟩ (by simp[cV,cA]) (by simp) ?_;rintro r ae ⟨W',m',rfl,rfl,g2,g3,g4⟩;rw[bE4,cY0,hv];have ha:=(gL ht aa).2.1;have g5:W'.take m'=qB l S:=by rw[g4,B1 hv];rfl
 have g6:m'=(qB l S).length:=by rw[←g5,E1];omega
 simp only[C0]at g3;refine AX (J _ _ ?_);clear J K';iterate 5 refine S0 ?_ (e:=fun _ h_=>by simp only[sH,↓sP,sA,tyS,simprocAttr,pvb];exact AX h_)
 refine T2 (U _ _ _ ?_);clear U K;refine aC fun K U=>?_;refine R0 ?_;refine CF rfl ?_;refine aG ?_;refine T0 (U _ _ _ ?_);clear U K;refine aC fun K U=>aY (by kernel_rfl) ?_;simp only[sR,simprocAttr];iterate 2 refine SG0 ?_ (e:=fun _ h_=>by simp only[sH,↓sP,sA,tyS,simprocAttr,pvb,bD,aT,aS];exact AX h_)
 refine cN (g:=none) 101 rfl rfl fun K' J=>?_;simp only[gH,kC,sH,↓sP,sA,tyS,simprocAttr,pvb,bD,aT,aS];repeat refine AI ?_
 refine cO (by first|rfl|simp) ?_;try simp only[sH,↓sP,sA,tyS,simprocAttr,pvb,bD,aT,aS]
 refine AX (J _ _ ?_);clear J K';refine SG0 ?_ (e:=fun _ h_=>by simp only[sH,↓sP,sA,tyS,simprocAttr,pvb,bD,aT,aS];exact AX h_);refine cE (g:=none) rfl rfl fun K' J=>?_;simp only[sH,↓sP,sA,tyS,simprocAttr,pvb,bD,aT,aS];refine dR [48,56] (aV2 l S W' m' ⟨5,0,[],[(m':Int)-1]⟩ g2 (by omega)) rfl ⟨(by rw[bE5];rfl),rfl,trivial⟩ (by simp) (by simp) ⟨rfl,rfl,rfl,rfl⟩ (by simp[cV,cA]) (by simp) ?_;rintro r ae ⟨rfl,rfl⟩;rw[bE4,dG5];refine AX (J _ _ ?_);clear J K';refine T2 (U _ _ _ ?_);clear U K;refine RS ?_;iterate 6 refine S0 ?_ (e:=fun _ h_=>by simp only[sH,↓sP,sA,tyS,simprocAttr,pvb,cA5,aG6,bD,aT,aS];exact AX h_)
 refine RE ?_;refine aE (RT Tryz.results14 ?_);refine⟨by rw[aG6];exact not_false,?_⟩;refine aO [56] (.slc ((eL l S).map Ln.cv)) (.bool true) ?_ ⟨rfl,by rw[I]⟩;have e1:List.take (m'+1) ((qQ W' m' ⟨5,0,[],[(m':Int)-1]⟩).map Ln.cv)=(eL l S).map Ln.cv:=by
  rw[←List.map_take,xS g2,g5,eL,B1 I,g6]
 simp only[HV.close,HV.closeL];rw[bL7 (L:=(qQ W' m' ⟨5,0,[],[(m':Int)-1]⟩).map Ln.cv) rfl (by simp) (by rw[mJ g2];omega),e1];simp
theorem cY1 (l:List Dig)(d:Dig)(hl:l.length<2^40):bM Tryz.prog 65 [.slc (l.map dg),dg d] (fun v=>v= .bool (l.contains d)):=by
 refine FW Tryz.func65 ?_;refine R0 ?_;refine aC fun K I=>?_;refine R0 ?_;refine aL ?_;refine bB (α:={i:Nat//i≤l.length∧ ∀x∈l.take i,(x==d)=false}) (fun i=>(fin [(0,.c (.slc (l.map dg))),(3,.ptr 0 0),(5,.c (.int .i64 i.1))],fob [(0,.box 44 (.c (dg d)))])) 100 (fun i=>l.length-i.1) ⟨0,by omega,by simp⟩ (fF) ?_;rintro⟨i,hi,h0⟩;refine aC fun K I=>?_;refine AU ?_;refine aJ (b:=decide ((i:Int)<l.length)) rfl (fun U=>?_) (fun U=>?_)
 ·
  have J:i<l.length:=by simpa using U
  refine aG ?_;refine T0 (I _ _ _ ?_);clear I K;refine aC fun K I=>?_;refine aL ?_;refine aC fun K I=>QR ?_;have F:=aI @A1 (aI @A4 (aI J (nM J)));refine AU ?_;refine T2 (I _ _ _ ?_);clear I K;refine aJ (b:=l[i]==d) rfl (fun U=>?_) (fun U=>?_)
  · refine R0 ?_;refine aE (RT Tryz.results65 ?_);exact aF [] (.bool true) rfl (by have:=B5 J;have e:l[i]=d:=(eq_of_beq U);rw[e]at this;simp[this])
  refine aG ?_;refine T0 (I _ _ _ ?_);clear I K;refine aM (by kernel_rfl) ?_;refine TQ (cW i) ?_;refine⟨⟨i+1,J,aN3 (p:=fun x=>x==d) J U h0⟩,fF,?_⟩;show l.length-(i+1)<l.length-i;omega
 refine aV (T3 ?_);clear I K;refine AX (I _ _ _ ?_);clear I K;refine R0 ?_;refine aE (RT Tryz.results65 ?_);have aa:i=l.length:=by simp at U;omega
 subst aa;exact aF [] (.bool false) rfl (by rw[C6]at h0;have:d∉l:=(fun hm=>by have:=h0 d hm;simp at this);simp[this])
theorem cY2 (a b:Dig):bM Tryz.prog 66 [dg a,dg b] (fun v=>v= .bool (dlt a b)):=by
 refine FW Tryz.func66 ?_;refine R0 ?_;refine aC fun K I=>?_;refine R0 ?_;refine aL ?_;refine bB (α:={i:Nat//i≤32∧a.1.take i=b.1.take i}) (fun i=>(fin [(2,.ptr 0 0),(3,.ptr 4 0),(5,.c (.int .i64 i.1))],fob [(0,.box 44 (.c (dg a))),(4,.box 44 (.c (dg b)))])) 100 (fun i=>32-i.1) ⟨0,by omega,by simp⟩ (fF) ?_;rintro⟨i,hi,h0⟩;refine aC fun K I=>?_;refine R0 ?_;refine aJ (b:=decide ((i:Int)<32)) rfl (fun U=>?_) (fun U=>?_)
 ·
  have J:i<32:=by simp at U;omega
  have aa:(i:Int)<32:=by omega
  have ha:i<a.1.length:=by rw[a.2];exact J
  have ad:i<b.1.length:=by rw[b.2];exact J
  refine aG ?_;refine T0 (I _ _ _ ?_);clear I K;refine aC fun K I=>?_;refine aL ?_;refine aC fun K I=>QR ?_;iterate 7 refine S0 ?_ (e:=fun _ h_=>by simp only[sH,↓sP,sA,tyS,simprocAttr,A1,aa,bK4 J,P4,u8];exact AX h_)
  refine T2 (I _ _ _ ?_);clear I K;refine aJ (b:=(((a.1[i]).toNat:Int) !=((b.1[i]).toNat:Int))) rfl (fun U=>?_) (fun U=>?_)
  ·
   refine aC fun K I=>QR ?_;iterate 8 refine S0 ?_ (e:=fun _ h_=>by simp only[sH,↓sP,sA,tyS,simprocAttr,A1,aa,bK4 J,P4,u8];exact AX h_)
   refine T2 (I _ _ _ ?_);clear I K;refine aE (RT Tryz.results66 ?_);rw[dB4]at U;exact aF [] (.bool _) rfl (by rw[dK0,dE4 J h0 (by simpa using U)])
  refine aG ?_;refine T0 (I _ _ _ ?_);clear I K;refine aM (by kernel_rfl) ?_;refine TQ (cW i) ?_;rw[dB4]at U;refine⟨⟨i+1,J,?_⟩,fF,?_⟩
  ·
   rw[A5 ha,A5 ad,h0];have:a.1[i]=b.1[i]:=by simpa using U
   rw[this]
  show 32-(i+1)<32-i;omega
 refine aV (T3 ?_);clear I K;refine AX (I _ _ _ ?_);clear I K;refine R0 ?_;refine aE (RT Tryz.results66 ?_);have ab:i=32:=by simp at U;omega
 subst ab;exact aF [] (.bool false) rfl (by rw[cI0 h0])
theorem bE6 (l:List Dig)(hl:l.length<2^40):dD9 Tryz.prog 57 44 32 (l.map dg) [] (fun l'=> ∃K:List Dig,l'=K.map dg∧dws K=cQ (dws l)):=by
 refine cT0 ?_;show HFn _ _ [.own 0 (l.map dg).length] 1 _ _;rw[A0];refine bO (args:=[.own 0 l.length]) Tryz.func57 rfl (by kernel_rfl) (aC2 44 32 l.length _) (C7 rfl) ?_;refine R0 ?_;refine aC fun K I=>?_;refine R0 ?_;refine aJ (b:=decide ((l.length:Int)<2)) rfl (fun J=>?_) (fun J=>?_)
 · refine R0 ?_;refine aE (RT Tryz.results57 ?_);exact uM (l.map dg) rfl (by simp) ⟨l,rfl,by rw[yT (by rw[iE];simp at J;omega)]⟩
 refine aG ?_;refine T0 (I _ _ _ ?_);clear I K;refine aC fun K I=>?_;refine R0 ?_;refine aL ?_;have h2:2≤l.length:=by simp at J;omega
 refine bB (α:={k:Nat//1≤k∧k≤l.length∧cQ (dws (l.take k))=dws (l.take k)}) (fun k=>(fin [(0,.own 0 l.length),(3,.c (.int .i64 k.1))],fob [(0,.row 44 32 (l.map dg))])) 100 (fun k=>l.length-k.1) ⟨1,by omega,by omega,yT (by rw[iE];simp;omega)⟩ (fF) ?_;clear J;rintro⟨k,ag,hk,hd⟩;refine aC fun K I=>?_;refine AU ?_;refine aJ (b:=decide ((k:Int)<l.length)) rfl (fun J=>?_) (fun J=>?_)
 ·
  have aa:k<l.length:=by simpa using J
  have af:k-1<l.length:=by omega
  have m1:IntKind.i64.wrap ((k:Int)-1)=((k-1:Nat):Int):=by rw[B0 _ (by omega)];omega
  refine aG ?_;refine T0 (I _ _ _ ?_);clear I K;refine aC fun K I=>?_;refine aL ?_;refine aC fun K I=>QR ?_;have F:=aI m1 (aI @A1 (aI @A4 (aI aa (aI af (aI (nM aa) (nM af))))));refine AU ?_;refine T2 (I _ _ _ ?_);clear I K;refine aJ (b:=l[k]==l[k-1]) rfl (fun J=>?_) (fun J=>?_)
  ·
   refine RS ?_;iterate 4 refine S0 ?_
   refine RE ?_;refine aC fun K I=>?_;refine R0 ?_;refine aL ?_;refine bB (α:={x:Nat×Nat×List Dig//x.2.2.length=l.length∧1≤x.1∧x.1<x.2.1∧x.2.1≤l.length∧k<x.2.1∧dws (x.2.2.take x.1)=cQ (dws (l.take x.2.1))∧x.2.2.drop (x.2.1-1)=l.drop (x.2.1-1)}) (fun x=>(fin [(0,.own 0 l.length),(3,.c (.int .i64 x.1.1)),(4,.osl 0 l.length k 32 l.length),(5,.c (.int .i64 ((x.1.2.1-k:Nat):Int)))],fob [(0,.row 44 32 (x.1.2.2.map dg))])) 300 (fun x=>l.length-x.1.2.1) ⟨(k,k+1,l),rfl,ag,by simp,aa,by simp,by rw[bR7 ag aa J,hd],rfl⟩ (fF) ?_;rintro⟨⟨i,j,r⟩,hr,ai,ak,hj,ao,g1,g2⟩;simp only at hr ai ak hj ao g1 g2⊢;have aq:(r.map dg).length=l.length:=by rw[A0,hr]
   have p0:0<l.length:=by omega
   have e9:(List.take (l.length-k) (List.drop k (r.map dg))).length=l.length-k:=by simp[hr]
   refine aC fun K I=>?_;refine RS ?_;have F:=aI hr (aI p0 (aI hk (aI @E3 e9)));refine AU ?_;refine aJ (b:=decide (((j-k:Nat):Int)<((l.length-k:Nat):Int))) rfl (fun J=>?_) (fun J=>?_)
   ·
    have U:j<l.length:=by simp at J;omega
    have ad:j<r.length:=by omega
    have ab:j-1<r.length:=by omega
    have ah:i<r.length:=by omega
    have an:i<l.length:=by omega
    have ae:j-1<l.length:=by omega
    have z1:((j-k:Nat):Int)<((l.length-k:Nat):Int):=by omega
    have z2:((j-k-1:Nat):Int)<((l.length-k:Nat):Int):=by omega
    have e1:k+(j-k)=j:=by omega
    have e2:k+(j-k-1)=j-1:=by omega
    have m2:IntKind.i64.wrap (((j-k:Nat):Int)-1)=((j-k-1:Nat):Int):=by rw[B0 _ (by omega)];omega
    have m3:IntKind.i64.wrap (((j-k:Nat):Int)+1)=((j+1-k:Nat):Int):=by rw[B0 _ (by omega)];omega
    have q0:r[j-1]=l[j-1]∧r[j]=l[j]:=by
     have a1:(r.drop (j-1))[0]? =(l.drop (j-1))[0]? :=by rw[g2]
     have a2:(r.drop (j-1))[1]? =(l.drop (j-1))[1]? :=by rw[g2]
     simp only[S1,L4,show j-1+1=j by omega,A9 ad,A9 ab,A9 U,A9 ae,E8]at a1 a2;exact⟨a1,a2⟩
    have q1:nth (r.map dg) j=dg l[j]:=by rw[aW ad,q0.2]
    have q2:nth (r.map dg) (j-1)=dg l[j-1]:=by rw[aW ab,q0.1]
    have g3:r.drop j=l.drop j:=by
     have:(r.drop (j-1)).drop 1=(l.drop (j-1)).drop 1:=by rw[g2]
     rwa [BC,BC,show j-1+1=j by omega]at this
    refine aG ?_;refine T0 (I _ _ _ ?_);clear I K;refine aC fun K I=>?_;have key: ∀(i':Nat) (r':List Dig) fr ob nx,r'.length=l.length→1≤i'→i'<j+1→dws (r'.take i')=cQ (dws (l.take (j+1)))→r'.drop j=l.drop j→Fits 1 fr ob (fin [(0,.own 0 l.length),(3,.c (.int .i64 i')),(4,.osl 0 l.length k 32 l.length),(5,.c (.int .i64 ((j-k:Nat):Int)))]) (fob [(0,.row 44 32 (r'.map dg))]) 500→K fr ob nx:=by
     rintro i' r' fr ob nx w1 w2 w3 w4 w5 hf;refine I _ _ _ (aZ hf ?_);clear hf I K;refine aM (by kernel_rfl) ?_;refine TQ m3 ?_;refine⟨⟨(i',j+1,r'),w1,w2,w3,U,by simp only;omega,w4,w5⟩,fF,?_⟩;show l.length-(j+1)<l.length-j;omega
    refine aL ?_;refine aC fun K I=>QR ?_;iterate 10 refine S0 ?_ (e:=fun _ h_=>by simp only[sH,↓sP,sA,tyS,simprocAttr,hr,m2,e1,e2,z1,z2,q1,q2,U,ae,ad,ab,A1,A4];exact AX h_)
    refine T2 (I _ _ _ ?_);clear I K;refine aJ (b:=!(l[j]==l[j-1])) rfl (fun J=>?_) (fun J=>?_)
    ·
     refine RS ?_;iterate 8 refine S0 ?_ (e:=fun _ h_=>by simp only[sH,↓sP,sA,tyS,simprocAttr,hr,e1,z1,q1,aW ah,an,ah,U,ad,A1,A4,←List.map_set];exact AX h_)
     refine RE ?_;refine aM (by kernel_rfl) ?_;refine TQ (cW i) ?_;refine key (i+1) (r.set i l[j]) _ _ _ (by simp[hr]) (by omega) (by omega) ?_ ?_ (fF)
     · exact dG0 (by omega) U (by simpa using J) (by omega) g1
     rw[List.drop_set_of_lt (by omega),g3]
    refine aG (T3 ?_);exact key i r _ _ _ hr ai (by omega) (by rw[bR7 (by omega) U (by simpa using J),g1]) g3 (fF)
   have U:j=l.length:=by simp at J;omega
   subst U;rw[C6]at g1;refine aV (T3 ?_);clear I K;refine AX (I _ _ _ ?_);clear I K;refine RS ?_;have F:=hr;refine AU ?_;refine aE (RT Tryz.results57 ?_);refine cF5 _ rfl ?_ ?_ ?_ ?_
   · simp[hr];omega
   · simp[hr];omega
   · simp[hr];omega
   refine⟨r.take i,?_,g1⟩;simp[hr];rw[R5 (by simp[hr];omega),R1,Nat.min_self]
  refine aG ?_;refine T0 (I _ _ _ ?_);clear I K;refine aM (by kernel_rfl) ?_;refine TQ (cW k) ?_;refine⟨⟨k+1,by omega,aa,cW7 ag aa J hd⟩,fF,?_⟩;show l.length-(k+1)<l.length-k;omega
 refine aV (T3 ?_);clear I K;refine AX (I _ _ _ ?_);clear I K;refine R0 ?_;refine aE (RT Tryz.results57 ?_);have aj:k=l.length:=by simp at J;omega
 subst aj;rw[C6]at hd;exact uM (l.map dg) rfl (by simp) ⟨l,rfl,by rw[hd]⟩
theorem cY3 (l:List Dig)(d:Dig)(hl:l.length<2^40):bM Tryz.prog 30 [.slc (l.map dg),dg d] (fun v=> ∃l':List Dig,v= .slc (l'.map dg)∧dws l'=uG (dws l) d.1):=by
 refine FW Tryz.func30 ?_;refine R0 ?_;refine aC fun K I=>?_;refine AU ?_;refine SC (cY1 l d hl) ?_;refine RE ?_;refine aJ (b:=l.contains d) rfl (fun U=>?_) (fun U=>?_)
 · refine R0 ?_;refine aE (RT Tryz.results30 ?_);exact aF [] (.slc (l.map dg)) (by simp[denilL_dg]) ⟨l,rfl,by rw[uG,←pC,U,B1 rfl]⟩
 refine aG ?_;refine T0 (I _ _ _ ?_);clear I K;refine R0 ?_;refine R0 ?_;refine aC fun K I=>?_;refine aL ?_;refine eH 5 0 44 32 rfl rfl rfl rfl ?_;refine bB (α:={i:Nat//i≤l.length∧ ∀j (h:j<i) (h':j<(dws l).length),slt (dws l)[j] d.1=true}) (fun i=>(fin [(0,.c (.slc (l.map dg))),(3,.ptr 0 0),(5,.own 28 i.1),(6,.c (.int .i64 i.1))],fob [(0,.box 44 (.c (dg d))),(28,.row 44 32 ((l.take i.1).map dg))])) 100 (fun i=>l.length-i.1) ⟨0,by omega,fun j h=>by omega⟩ (fF) ?_;rintro⟨i,hi,aa⟩;have ab:(l.take i).length=i:=by simp;omega
 have ae:decide ((i:Int)<(l.length:Int))=true→i<l.length:=fun h=>by simpa using h
 refine aC fun K I=>?_;by_cases J:i<l.length
 ·
  refine aC fun K I=>DW [(0,[],[]),(1,[],[]),(2,[],[]),(3,[],[]),(4,[],[]),(5,[],[]),(6,[],[]),(7,[],[]),(8,[],[]),(9,[],[]),(10,[],[]),(11,[],[])] [0,0,2,7,15,31,31,127,255,31,1023,2047] ?_;have F:=aI @A1 (aI @A4 (aI J (nM J)));iterate 10 refine WF ?_
  refine bL (g:=some (15,true)) rfl rfl fun K' ad=>T6 ?_;refine C2 (cY2 l[i] d) ?_;rintro u rfl;refine AX (ad _ _ ?_);clear ad K';refine WF ?_;refine T2 (I _ _ _ ?_);clear I K;refine aJ (b:=dlt l[i] d) rfl (fun U=>?_) (fun U=>?_)
  ·
   refine aG ?_;refine T0 (I _ _ _ ?_);clear I K;refine aL ?_;refine RS ?_;have F:=aI @A1 (aI @A4 (aI J (aI (nM J) (aI ab @A3.{0}))));refine AU ?_;refine aM (by kernel_rfl) ?_;refine TQ (cW i) ?_;refine⟨⟨i+1,by omega,fun j h h'=>?_⟩,bA (by omega) ?_ ?_,?_⟩
   ·
    by_cases e:j=i
    · subst e;rw[vT];exact U
    exact aa j (by omega) h'
   · simp
   · refine⟨rfl,by omega,trivial,?_,by omega,trivial,trivial⟩;simp only[A5 J,C5];rfl
   show l.length-(i+1)<l.length-i;omega
  refine aV (T3 ?_);clear I K;refine AX (I _ _ _ ?_);clear I K;refine aC fun K I=>DW [(0,[],[]),(1,[],[]),(2,[],[]),(4,[2],[]),(5,[2],[]),(6,[2],[]),(3,[],[4,5,6]),(7,[],[]),(8,[],[])] [0,0,2,7,0,0,48,127,255] ?_;iterate 9 refine W0 ?_ (e:=fun _ h_=>by simp only[sH,↓sP,sA,tyS,simprocAttr,ab,←List.map_drop,←List.map_take,bB7];exact AX h_)
  refine T2 (I _ _ _ ?_);clear I K;refine aE (RT Tryz.results30 ?_);refine aF [28] (.slc ((l.take i++d::l.drop i).map dg)) ?_ ⟨_,rfl,?_⟩
  · simp[C8]
  rw[tL,show dws (d::l.drop i)=d.1::dws (l.drop i)from rfl,show dws (l.drop i)=(dws l).drop i from P3,mH];rw[bO2 (by rw[←pC];assumption) (by rw[iE];exact hi) aa (fun h=>by rw[vT];exact U)]
 refine aC fun K I=>DW [(0,[],[]),(1,[],[]),(2,[],[]),(3,[],[]),(4,[],[]),(5,[],[]),(6,[],[]),(7,[],[]),(8,[],[]),(9,[],[]),(10,[],[]),(11,[],[])] [0,0,2,7,15,31,31,127,255,31,1023,2047] ?_;have F:=aI @A4 J;iterate 12 refine WF ?_
 refine T2 (I _ _ _ ?_);clear I K;refine aJ (b:=_) rfl (fun U=>?_) (fun U=>?_)
 · cases U
 refine aV (T3 ?_);clear I K;refine AX (I _ _ _ ?_);clear I K;refine aC fun K I=>DW [(0,[],[]),(1,[],[]),(2,[],[]),(4,[2],[]),(5,[2],[]),(6,[2],[]),(3,[],[4,5,6]),(7,[],[]),(8,[],[])] [0,0,2,7,0,0,48,127,255] ?_;iterate 9 refine W0 ?_ (e:=fun _ h_=>by simp only[sH,↓sP,sA,tyS,simprocAttr,ab,←List.map_drop,←List.map_take,bB7];exact AX h_)
 refine T2 (I _ _ _ ?_);clear I K;refine aE (RT Tryz.results30 ?_);refine aF [28] (.slc ((l.take i++d::l.drop i).map dg)) ?_ ⟨_,rfl,?_⟩
 · simp[C8]
 rw[tL,show dws (d::l.drop i)=d.1::dws (l.drop i)from rfl,show dws (l.drop i)=(dws l).drop i from P3,mH];rw[bO2 (by rw[←pC];assumption) (by rw[iE];exact hi) aa (fun h=>absurd (by rwa [iE]at h) J)]
end Go.Proofs.YthedbjfipmkpiaaGreatDoor
namespace Go.Proofs.YthedbjfipmkpiaaGreatDoor
open Go Go.Hl Go.Pl Go.Sort Go.RowKit
theorem bL8 (x y:Dig)(b c:Nat)(W:World)(h:(callFunc 90 #[.slice (some ⟨b,0,none⟩) 32 32,.slice (some ⟨c,0,none⟩) 32 32]).run Tryz.prog W= .ok (.value (.int .i64 (mB x.1 y.1))) W):
    Calls Tryz.prog 56 #[.slice (some ⟨b,0,none⟩) 32 32,.slice (some ⟨c,0,none⟩) 32 32] W fun e w'=>e= .returned (.int .i64 (mB x.1 y.1))∧w'=W:=by
  generalize mB x.1 y.1=r at h⊢
  go_enter Tryz.func56,Tryz.ntmps56
  go_wp2_with fail
  go_ret
  exact⟨rfl,rfl⟩
theorem bE7 (x y:Dig)(W:World)
    (J: ∀W':World,W'.heap=((W.alloc (Obj.cells (eY x).toArray 44)).alloc (Obj.cells (eY y).toArray 44)).heap→Calls Tryz.prog 56 #[.slice (some ⟨W.heap.size,0,none⟩) 32 32,.slice (some ⟨W.heap.size+1,0,none⟩) 32 32] W' fun e w'=>e= .returned (.int .i64 (mB x.1 y.1))∧w'=W'):
    Calls Tryz.prog 55 #[.agg (eY x).toArray,.agg (eY y).toArray] W fun e w'=>e= .returned (.int .i64 (mB x.1 y.1))∧ ∃q I,w'=grow (W.drewN q) I:=by
  go_enter Tryz.func55,Tryz.ntmps55
  go_wp2_with fail
  go_quiet (first|(go_at_call 56;refine Calls.quiet_of_same (J _ rfl)))
  go_wp2
  go_ret
  exact⟨rfl,nq,_,by rw[alloc_eq_grow,alloc_eq_grow,grow_grow];rfl⟩
theorem aP5 {W:World}{b:Nat}{d:Dig}{t:TypeId}{ρ:Env}(hb:W.heap[b]? =some (.cells (eY d).toArray t (0,0))):RepV W ρ (fun _=>False) (.c (.slc (d.1.map u8))) (.slice (some ⟨b,0,none⟩) 32 32):=by
  refine bQ ?_ rfl rfl;simp only[RepC];refine⟨some ⟨b,0,none⟩,32,eY d,1,by simp[d.2],aG8.2 rfl,fun v I=>?_,by simp[d.2],fun h=>(by cases h),fun ad h=>?_⟩
  · obtain⟨x,_,rfl⟩:=H0.1 I;rfl
  · cases h
    refine⟨fun j u J=>?_,fun _ h=>h⟩;have U:(eY d).toArray[j]? =some u:=by simpa using J
    rw[show(⟨b,0,none⟩:Addr).add j=⟨b,j,none⟩from by unfold Addr.add;split<;>simp_all];simp only[World.cell?,hb,U,CG,G9,L8]
theorem bE8 (x y:Dig)(W:World):Calls Tryz.prog 55 #[.agg (eY x).toArray,.agg (eY y).toArray] W fun e w'=>e= .returned (.int .i64 (mB x.1 y.1))∧ ∃q I,w'=grow (W.drewN q) I:=
  bE7 x y W fun W' J=>bL8 x y _ _ W' (by
    have U:W'.heap[W.heap.size]? =some (.cells (eY x).toArray 44 (0,0)):=by
      rw[J];simp only[World.alloc,BS,Array.size_push];rw[A7 (by omega),G4]
    have h2:W'.heap[W.heap.size+1]? =some (.cells (eY y).toArray 44 (0,0)):=by
      rw[J];simp only[World.alloc,BS,Array.size_push];rw[G4]
    have hr:=cT7 (P:=Tryz.prog) (aP5 (ρ:=fun _=>none) U) (aP5 (ρ:=fun _=>none) h2);rw[Y3 Tryz.func90 (by kernel_rfl) (by kernel_rfl) (by kernel_rfl) (e:=Extern.BytealgCompare.compare) (by kernel_rfl),hr];rfl)
theorem bL9 (blk size:Nat)(w:World):CmpLays Tryz.prog 55 #[] eY 32 (fun x y=>mB x.1 y.1) blk 0 size w:=fun _ _ _ _ x y=>bE8 x y _
theorem cO4 :SWO (I fun x y:Dig=>mB x.1 y.1):=by
  have e: ∀x y:Dig,I (fun x y:Dig=>mB x.1 y.1) x y=true↔x.1<y.1:=fun x y=>by
    rw[←zL];show decide (mB x.1 y.1<0)=true↔slt x.1 y.1=true;unfold mB;by_cases h:slt x.1 y.1=true
    · simp[h]
    · have h':slt x.1 y.1=false:=by simpa using h
      rw[h'];by_cases J:x.1=y.1<;>simp[J]
  have U: ∀x y:Dig,I (fun x y:Dig=>mB x.1 y.1) x y=false↔y.1≤x.1:=fun x y=>by
    rw[←List.not_lt,←e,Bool.not_eq_true]
  refine⟨fun x=>(U x x).2 (List.le_refl _),fun x y z h1 J=>(e x z).2 (X2 ((e x y).1 h1) ((e y z).1 J)),fun x y z h1 J=>(U x z).2 (List.le_trans ((U y z).1 J) ((U x y).1 h1))⟩
end Go.Proofs.YthedbjfipmkpiaaGreatDoor
namespace Go.Hl
open Go Go.RowKit Go.Sort Go.Pl Go.Proofs
def bM0 (P:Program)(lt:Dig→Dig→Bool)(f g:FuncId)(e:TypeId)(l:List Dig):Prop:=
 HFn P f [.own 0 l.length,.c (.fn g)] 1 (fob [(0,.row e 32 (l.map dg))]) (fun r ob'=>r= .tup []∧ ∃l':List Dig,l'.Perm l∧l'.Pairwise (fun a b=>lt b a=false)∧ob'=fob [(0,.row e 32 (l'.map dg))])
variable {l:List Dig}{e:TypeId}{lt:Dig→Dig→Bool}{P:Program}
theorem cA6 {f g:FuncId}(au:fC P f=true)
  (hc: ∀(blk cap:Nat) (w:World),HoldsK eY 32 w blk 0 l.toArray→blk<w.heap.size→Calls P f #[.slice (some ⟨blk,0,none⟩) l.length cap,.func (.func g) #[] #[]] w fun x w'=>x= .returned (.tuple #[])∧ ∃(d':Array Dig) (n:Nat) (os:Array Obj),PermIn 0 l.length l.toArray d'∧SortedIn lt 0 l.length d'∧w'=sortWorldK eY 32 w blk 0 n d' os)
  (bb: ∀(cap:Nat) (w:World),Calls P f #[.slice none 0 cap,.func (.func g) #[] #[]] w fun x w'=>x= .returned (.tuple #[])∧w'=w):bM0 P lt f g e l:=by
 refine⟨uA au,fun w ρ X xs hS hA hX=>Does.of au ?_⟩;obtain⟨h,ys,hρ,hL,bm,how⟩:=hS.objs 0 (.row e 32 (l.map dg)) rfl;have ba:=oI.1 hL;subst ba;have hlen:hlen h=l.length:=by have:=ownsRow_size how;simpa using this
 have ag:xs=[h,.func (.func g) #[] #[]]:=by
  rw[bJ]at hA;obtain⟨y,zs,rfl,hy,hz⟩:=hA;rw[bJ]at hz;obtain⟨y2,bk,rfl,ax,ab⟩:=hz;simp only[RepHV]at ab;subst ab;obtain⟨ak,ay⟩:=hy;have bh:Value.isAgg' y=false:=by rw[←ay];rfl
  rw[cells_single bh]at ak;simp only[RepH,F8,J9]at ak;obtain⟨x,rfl,_,hx⟩:=ak;obtain⟨an,ab⟩:=ax;have aq:Value.isAgg' y2=false:=by rw[←ab];rfl
  rw[cells_single aq]at an;simp only[RepH,RepC,F8,J9]at an;rw[(hx h hρ).2 hlen,an]
 subst ag;have aw: ∀w':World,RepV w' ρ (Owned ρ X) (.tup []) (.tuple #[]):=fun w'=>by
  refine⟨?_,rfl⟩;simp only[RepH];exact⟨[],rfl,by simp[RepHV]⟩
 rcases how.2 with⟨rfl,hz⟩|⟨g',cap,cur,rfl,bl,hg,J,hmax,aa,U⟩
 ·
  have:l=[]:=D3 (by simpa using hz);subst this;refine(bb 0 w).mono ?_;rintro ex w' ⟨rfl,rfl⟩;refine⟨.tup [],_,ρ,.tuple #[],rfl,⟨rfl,[],List.Perm.refl _,List.Pairwise.nil,rfl⟩,⟨aw _,by simpa using hS,by simp[HV.men,HV.menL],fun i o I=>?_,Stay2.refl _ _,Moves.refl _ _⟩⟩;simp only[fob_at,fob_nil]at I;split at I
  · rename_i e0;subst e0;cases I;exact⟨by omega,trivial⟩
  · cases I
 ·
  simp only[A0]at J aa U;have ar:g'<w.heap.size:=(G1.1 hg).1;have hH:HoldsK eY 32 w g' 0 l.toArray:=fun j hj=>by
   have ai:j<l.length*32:=by simpa using hj
   refine⟨?_,by simp[World.frozen?,hg]⟩;have e1:cur.toList[j]? =some (flatK eY 32 l.toArray)[j]! :=by
    have e0:(l.flatMap eY)[j]? =some (flatK eY 32 l.toArray)[j]! :=by
     rw[←aG9,N2,O9 (by simpa using ai),AP _ j (by simpa using ai)]
    have:(cur.toList.take (l.length*32))[j]? =(l.flatMap eY)[j]? :=by rw[U]
    rwa [M3,B1 ai,e0]at this
   rw[N2]at e1;simp only[World.cell?,hg,F0,e1,CG,G9,L8,id]
  simp only[A0];refine(hc g' cap w hH ar).mono ?_;rintro ex w' ⟨rfl,d',n,os,⟨bg,-,az⟩,bc,rfl⟩;obtain⟨S,rfl⟩: ∃S:List Dig,d'=S.toArray:=⟨d'.toList,by simp⟩;have ad:S.length=l.length:=by simpa using bg
  have ah:S.Perm l:=by
   have h1:(S.toArray.extract 0 l.length).toList=S:=by rw[←ad];simp
   have h2:(l.toArray.extract 0 l.length).toList=l:=by simp
   rwa [h1,h2]at az
  have ao:S.Pairwise (fun a b=>lt b a=false):=P0.2 fun i j hi hj bf=>by
   have h1:=bc i j (I1 _) bf (by omega);simpa[AP,hi,hj]using h1
  have ae: ∀b,b<w.heap.size→b≠g'→(sortWorldK eY 32 w g' 0 n S.toArray os).heap[b]? =w.heap[b]? :=fun b hb aj=>by
   simp only[sortWorldK,putRowK,grow,putRow,mapBlock,Sort.ahead];rw[Q0 (by simpa using hb),AY,A7 (fun h=>aj h.symm)]
  have af:(sortWorldK eY 32 w g' 0 n S.toArray os).heap[g']? =some (.cells (putCells id 0 (flatK eY 32 S.toArray) cur) e (0,0)):=by
   simp only[sortWorldK,putRowK,grow,putRow,mapBlock,Sort.ahead];rw[Q0 (by simpa using ar),AY,B1 rfl,hg];rfl
  have bd:Stay2 w (Own ρ) (sortWorldK eY 32 w g' 0 n S.toArray os) (Own ρ):=⟨fun b hb bj=>ae b hb (fun e'=>bj ⟨0,_,hρ,by rw[e'];rfl⟩),fun _ h=> .inl h,by simp[sortWorldK,putRowK,grow,putRow,mapBlock,Sort.ahead],rfl,rfl,rfl⟩;refine⟨.tup [],_,ρ,.tuple #[],rfl,⟨rfl,S,ah,ao,rfl⟩,⟨aw _,⟨fun i o I=>?_,fun i hi=>hS.none i ?_,hS.apart,hS.xb⟩,by simp[HV.men,HV.menL],fun i o I=>?_,bd,Moves.refl _ _⟩⟩
  ·
   simp only[fob_at,fob_nil]at I;split at I
   ·
    rename_i e0;subst e0;cases I;refine⟨_,S.flatMap eY,hρ,oI.2 rfl,fun v hv=>?_,by rw[vZ,A0],.inr ⟨g',cap,putCells id 0 (flatK eY 32 S.toArray) cur,by simp[ad],I1 _,af,by simp[ad];exact J,hmax,?_,?_⟩⟩
    · obtain⟨s,_,rfl⟩:=H0.1 hv;exact dg_cells s
    · rw[←aa];simp[putCells]
    · have h1:=aH0 (flatK eY 32 S.toArray) cur (by rw[size_flatK,aa];simp only[I8,ad];exact I3 _ J);rw[aG9,size_flatK]at h1;simpa using h1
   · cases I
  ·
   simp only[fob_at,fob_nil]at hi⊢;split at hi
   · cases hi
   · rename_i aj;rw[A7 aj]
  ·
   simp only[fob_at,fob_nil]at I;split at I
   · rename_i e0;subst e0;cases I;exact⟨by omega,trivial⟩
   · cases I
theorem bM1 {av:List Nat}{f g:FuncId}{ob:Ob}{nid id n:Nat}{K:HV→Ob→Prop}(h:bM0 P lt f g e l)(hid:ob id=some (.row e 32 (l.map dg)))(hn:n=l.length)(aa:id∉av)
  (I:Free4 ob nid) (hK: ∀J:List Dig,J.Perm l→J.Pairwise (fun a b=>lt b a=false)→K (.tup []) (upd ob id (some (.row e 32 (J.map dg))))):HCall P av f [.own id n,.c (.fn g)] ob nid K:=by
 have h0:sub [id] nid 0=id:=rfl;subst hn;refine⟨[id],_,_,_,h,aL6 (by simp[HV.menL,HV.men]),⟨by simp,by simpa using aa⟩,by simp only[HV.renL,HV.ren,h0],fun j o U=>?_,fun r ab hR _=>?_⟩
 ·
  simp only[fob_at,fob_nil]at U;split at U
  · rename_i e0;subst e0;cases U;simpa[HO.ren]using hid
  · cases U
 · obtain⟨rfl,J,hp,hq,rfl⟩:=hR;rw[aY9 I];exact hK J hp hq
end Go.Hl
