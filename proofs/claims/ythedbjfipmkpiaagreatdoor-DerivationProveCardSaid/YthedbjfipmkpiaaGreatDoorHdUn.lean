/- Part of a proof: walks of functions of the program, by contracts, and the rules they use. By an AI agent. -/
import Derived.Test.YthedbjfipmkpiaaGreatDoorHdUi
import Derived.Test.YthedbjfipmkpiaaGreatDoorHlTop
import Derived.Test.YthedbjfipmkpiaaGreatDoorHlIt
import Derived.Test.YthedbjfipmkpiaaGreatDoorPl18e
import Derived.Shelf.GgSortFunc.InsertionK
import Derived.Sort.Statements
import Derived.Shelf.RegionOpenPlain
import Derived.WalkKit
import Derived.Deep.LoopGhost
import Derived.Lib.Walk
import Derived.Lib.SliceRun
import Derived.Test.YthedbjfipmkpiaaGreatDoorChecked
set_option linter.unusedSimpArgs false
set_option linter.unusedVariables false
set_option linter.defProp false
namespace Go.Proofs.YthedbjfipmkpiaaGreatDoor
open Go Go.Hl Go.Pl
set_option maxRecDepth 10000
set_option maxHeartbeats 16000000
theorem qQ (id n sz m:Nat):(cE id n sz m).norm=cE id n sz m:=by unfold cE;split<;>rfl
theorem jP {N:Nat→Nat}(id n sz m:Nat):(cE id n sz m).ren N=cE (N id) n sz m:=by unfold cE;split<;>rfl
variable {ob:Ob}
theorem sQ (m n:Nat){L:List CV}(h:ob 1=some (.row 41 4 L)):(cE 1 n 4 m).close ob []=cE 1 n 4 m:=by
 unfold cE;split<;>simp[HV.close]
abbrev pvb (l:List Nd)(S:List Sp)(X:HV):HV:= .agg [.c (.slc (l.map Nd.cv)),.c (.slc ((dE l).map iC)),.c (.slc (S.map Sp.cv)),X]
abbrev osP (l:List Nd)(S:List Sp)(W:List Ln)(m:Nat):List HO:=[.box 80 (pvb l S (cE 1 W.length 4 m)),.row 41 4 (W.map Ln.cv)]
def oD (W:List Ln)(m:Nat)(x:Ln):List Ln:=W.take m++[x]++W.drop (m+1)
variable {m:Nat}{W:List Ln}
theorem kI (h:m≤W.length)(x:Ln):(oD W m x).length=max W.length (m+1):=by simp[oD];omega
theorem aE4 (W:List Ln)(x:Ln):oD W W.length x=W++[x]:=by simp[oD]
theorem uA (h:m≤W.length)(x:Ln):(oD W m x).take (m+1)=W.take m++[x]:=by
 unfold oD;rw[List.take_append_of_le_length (by simp;omega),List.take_of_length_le (by simp;omega)]
theorem aR0 (W:List Ln)(m:Nat)(x:Ln):(oD W m x).map Ln.cv=List.take m (W.map Ln.cv)++[x.cv]++List.drop (m+1) (W.map Ln.cv):=by simp[oD,List.map_take,List.map_drop]
theorem bY7 (a b:HO):lst [a,b]=fob [(0,a),(1,b)]:=by
 funext i
 match i with
 |0=>rfl
 |1=>rfl
 |i+2=>simp[lst,fob,upd]
theorem yQ {c0:CV}{l:List Nd}{S:List Sp}{u:HV}{R:HV→List HO→Prop}(hr:u= .c c0)(h0:ob 0=some (.box 80 (pvb l S (cE 1 W.length 4 m))))(h1:ob 1=some (.row 41 4 (W.map Ln.cv)))(hR:R (.c c0.denil) (osP l S W m)):
  iK 2 u ob (fun r ob'=> ∃os',ob'=lst os'∧(2≤os'.length∧os'.length≤2+4)∧R r os'):=by
 subst hr;refine gN [] [] (.c c0.denil) (osP l S W m) (by simp[HV.close,HV.norm,HV.toC,HV.ren]) (by simp[HV.men]) ⟨⟨by simp[HO.men,HV.men,HV.menL,pvb,bN],by simp,_,h0,?_⟩,⟨by simp[HO.men],by simp,_,h1,rfl⟩,trivial⟩ rfl List.nodup_nil (by simp) (by simp) hR;simp[pvb,HO.close,HV.close,HV.closeL,sQ m W.length h1,CV.denil,denilL_Nd,cM,denilL_Sp,aM8,HV.norm,HV.toC,HV.toCL,HO.ren,HV.ren,HV.renL,aR,qQ,jP,tau]
theorem aI5 (l:List Nd)(S:List Sp)(W:List Ln)(m:Nat)(x:Ln)(hm:m≤W.length)(hW:W.length<2^40):
  HGe Tryz.prog 38 [.ptr 0 0,.c x.cv] (osP l S W m) (fun r os'=>r= .c (.int .i64 m)∧os'=osP l S (oD W m x) (m+1)):=by
 refine bQ (args:=[.ptr 0 0,.c x.cv]) Tryz.func38 rfl (by kernel_rfl) (eS rfl (by simp[pvb,dL,HO.men,HV.men,HV.menL,bN]) (by simp[HV.menL,HV.men])) (Nat.le_of_ble_eq_true rfl) ?_;show Hw _ _ 2 _ _ _ (lst _) 2;rw[bY7];have hw1:IntKind.i64.wrap (((m+1:Nat):Int)-1)=(m:Int):=by rw[cD _ (by omega)];omega
 refine aC fun K hK=>aD (by kernel_rfl) ?_;simp (maxSteps:=4000000) only[↓sP,sA,tyS,simprocAttr];repeat refine AI ?_
 refine hK _ _ _ ?_;clear hK K;by_cases hmW:m=W.length
 ·
  subst hmW;refine aC fun K hK=>dW mixed [(0,[],[]),(1,[],[]),(2,[],[]),(3,[],[]),(4,[],[]),(5,[],[]),(6,[],[]),(7,[],[0]),(8,[],[]),(9,[],[]),(10,[],[])] [0,0,2,6,14,0,32,126,255,511,1023] (by kernel_rfl) (by kernel_rfl) (by kernel_rfl) (by kernel_rfl) rfl (by kernel_rfl) ?_;iterate 11
   (refine cC (g:=none) rfl rfl fun K' hK'=>?_;simp only[sH,↓sP,sA,tyS,simprocAttr,pvb,bZ,aY,aS,aR];(repeat refine AI ?_);refine hK' _ _ ?_;clear hK' K')
  simp only[sE,↓reduceIte,simprocAttr];repeat refine AI ?_
  refine hK _ _ _ ?_;clear hK K;refine aC fun K hK=>aD (by kernel_rfl) ?_;simp only[sR,simprocAttr];iterate 7
   (refine aE (g:=none) rfl rfl fun K' hK'=>?_;simp only[sH,↓sP,sA,tyS,simprocAttr,List.length_append,List.length_map,hw1];(repeat refine AI ?_);refine hK' _ _ ?_;clear hK' K')
  simp only[sE,↓reduceIte,simprocAttr];repeat refine AI ?_
  refine hK _ _ _ ?_;clear hK K;refine aH ?_;simp (maxSteps:=4000000) only[bK,Tryz.results38,bH,bJ,bG,↓sP,sA,tyS,simprocAttr];exact yQ (W:=oD W W.length x) (m:=W.length+1) rfl (by rw[aE4];simp[fob_at,upd_at,bZ]) (by rw[aE4];simp[fob_at,upd_at]) ⟨rfl,rfl⟩
 have hWp:0<W.length:=by omega
 have hm2:m+1≤W.length:=by omega
 refine aC fun K hK=>dW mixed [(0,[],[]),(1,[],[]),(2,[],[]),(3,[],[]),(4,[],[]),(5,[],[]),(6,[],[]),(7,[],[0]),(8,[],[]),(9,[],[]),(10,[],[])] [0,0,2,6,14,0,32,126,255,511,1023] (by kernel_rfl) (by kernel_rfl) (by kernel_rfl) (by kernel_rfl) rfl (by kernel_rfl) ?_;iterate 7
  (refine cC (g:=none) rfl rfl fun K' hK'=>?_;simp only[sH,↓sP,sA,tyS,simprocAttr,pvb,bW hmW,aY,aS,aR,List.length_map,hWp,hm,hm2];(repeat refine AI ?_);refine hK' _ _ ?_;clear hK' K')
 refine cJ (g:=none) rfl rfl fun K' hK'=>?_;simp (maxSteps:=4000000) only[sN,↓hopH.eq_def,sH,↓sP,sA,tyS,simprocAttr,pvb,bW hmW,aY,aS,aR,List.length_map,hWp,hm,hm2];repeat refine AI ?_
 refine hK' _ _ ?_;clear hK' K';iterate 3
  (refine cC (g:=none) rfl rfl fun K' hK'=>?_;simp only[sH,↓sP,sA,tyS,simprocAttr,pvb,bW hmW,aY,aS,aR,List.length_map,hWp,hm,hm2];(repeat refine AI ?_);refine hK' _ _ ?_;clear hK' K')
 simp only[sE,↓reduceIte,simprocAttr];repeat refine AI ?_
 refine hK _ _ _ ?_;clear hK K;by_cases hm1:m+1=W.length
 ·
  have hcan:cE 1 W.length 4 (m+1)= .own 1 (m+1):=by rw[←hm1];exact bZ 1 (m+1) 4
  have hll:(List.take m (W.map Ln.cv)++[x.cv]++List.drop (m+1) (W.map Ln.cv)).length=m+1:=by simp;omega
  refine aC fun K hK=>aD (by kernel_rfl) ?_;simp only[sR,simprocAttr];iterate 7
   (refine aE (g:=none) rfl rfl fun K' hK'=>?_;simp only[sH,↓sP,sA,tyS,simprocAttr,hcan,hll,hw1];(repeat refine AI ?_);refine hK' _ _ ?_;clear hK' K')
  simp only[sE,↓reduceIte,simprocAttr];repeat refine AI ?_
  refine hK _ _ _ ?_;clear hK K;refine aH ?_;simp (maxSteps:=4000000) only[bK,Tryz.results38,bH,bJ,bG,↓sP,sA,tyS,simprocAttr];exact yQ (W:=oD W m x) (m:=m+1) rfl (by rw[kI hm,show max W.length (m+1)=W.length from by omega,hcan];rfl) (by rw[aR0];rfl) ⟨rfl,rfl⟩
 have hll:(List.take m (W.map Ln.cv)++[x.cv]++List.drop (m+1) (W.map Ln.cv)).length=W.length:=by simp;omega
 have hlt:(List.take (m+1) (List.take m (W.map Ln.cv)++[x.cv]++List.drop (m+1) (W.map Ln.cv))).length=m+1:=by rw[List.length_take,hll];omega
 refine aC fun K hK=>aD (by kernel_rfl) ?_;simp only[sR,simprocAttr];iterate 7
  (refine aE (g:=none) rfl rfl fun K' hK'=>?_;simp only[sH,↓sP,sA,tyS,simprocAttr,bW hm1,hll,hlt,hWp,hm2,Nat.zero_le,List.drop_zero,Nat.sub_zero,hw1];(repeat refine AI ?_);refine hK' _ _ ?_;clear hK' K')
 simp only[sE,↓reduceIte,simprocAttr];repeat refine AI ?_
 refine hK _ _ _ ?_;clear hK K;refine aH ?_;simp (maxSteps:=4000000) only[bK,Tryz.results38,bH,bJ,bG,↓sP,sA,tyS,simprocAttr];exact yQ (W:=oD W m x) (m:=m+1) rfl (by rw[kI hm,show max W.length (m+1)=W.length from by omega,bW hm1];rfl) (by rw[aR0];rfl) ⟨rfl,rfl⟩
end Go.Proofs.YthedbjfipmkpiaaGreatDoor
namespace Go.Hl
open Go Go.RowKit Go.Sort Go.Pl Go.Proofs
def eC (d:Dig):List Value:=d.1.map fun b=> .int .u8 b.toNat
theorem mA (d:Dig):(eC d).length=32:=by simp[eC,d.2]
instance :Inhabited Dig:=⟨zdg⟩
theorem yR {w:World}{O:Nat→Prop}: ∀{l:List UInt8} {xs:List Value},RepL w O (l.map fun b=>CV.int .u8 b.toNat) xs↔xs=l.map fun b=>Value.int .u8 b.toNat
 |[],xs=>by simp only[List.map_nil,RepL]
 |b::l,xs=>by
  simp only[List.map_cons,RepL,RepC,yR];constructor
  · rintro⟨c1,c2,rfl,rfl,rfl⟩;rfl
  · rintro rfl;exact⟨_,_,rfl,rfl,rfl⟩
theorem mB {w:World}{O:Nat→Prop}: ∀{l:List Dig} {xs:List Value},RepL w O (l.map dg) xs↔xs=l.flatMap eC
 |[],xs=>by simp only[List.map_nil,RepL,List.flatMap_nil]
 |d::l,xs=>by
  have e: ∀c,RepC w O (dg d) c↔c=eC d:=fun c=>by simp only[dg,dgl,RepC,yR,eC]
  simp only[List.map_cons,RepL,List.flatMap_cons,mB,e];constructor
  · rintro⟨c1,c2,rfl,rfl,rfl⟩;rfl
  · rintro rfl;exact⟨_,_,rfl,rfl,rfl⟩
theorem sS (l:List Dig):(l.flatMap eC).length=l.length*32:=by
 induction l with
 |nil=>rfl
 |cons d l ih=>rw[List.flatMap_cons,List.length_append,mA,ih,List.length_cons];omega
theorem aR1 : ∀(l:List Dig) (t:Nat) (h:t<l.length*32),(l.flatMap eC)[t]? =(eC (l.toArray[t/32]!))[t%32]?
 |[],t,h=>by simp at h
 |d::l,t,h=>by
  rw[List.flatMap_cons];by_cases ht:t<32
  · rw[List.getElem?_append_left (by rw[mA];exact ht),Nat.div_eq_of_lt ht,Nat.mod_eq_of_lt ht];simp
  · rw[List.getElem?_append_right (by rw[mA];omega),mA,aR1 l (t-32) (by simp only[List.length_cons]at h;omega)];obtain⟨s,rfl⟩: ∃s,t=s+32:=⟨t-32,by omega⟩;rw[Nat.add_sub_cancel,Nat.add_mod_right,Nat.add_div_right _ (by omega)];simp
theorem yS (l:List Dig):(flatK eC 32 l.toArray).toList=l.flatMap eC:=by
 apply List.ext_getElem?;intro t;by_cases ht:t<l.length*32
 ·
  rw[aR1 l t ht,Array.getElem?_toList,Array.getElem?_eq_getElem (by simpa using ht)];have h1:=get_flatK eC 32 l.toArray t (by simpa using ht);rw[getElem!_pos _ t (by simpa using ht)]at h1;rw[h1];have h2:t%32<(eC l.toArray[t/32]!).length:=by rw[mA];omega
  rw[List.getElem?_eq_getElem h2,getElem!_pos (eC l.toArray[t/32]!) (t%32) h2]
 · rw[List.getElem?_eq_none (by simp;omega),List.getElem?_eq_none (by rw[sS];omega)]
theorem yT (F cur:Array Value)(h:F.size≤cur.size):(putCells id 0 F cur).toList.take F.size=F.toList:=by
 apply List.ext_getElem?;intro i;by_cases hi:i<F.size
 ·
  rw[List.getElem?_take,if_pos hi];have hc:i<cur.size:=by omega
  simp only[putCells,Array.getElem?_toList,Array.getElem?_mapIdx,Array.getElem?_eq_getElem hc,Option.map_some,Array.getElem?_eq_getElem hi];simp[hi]
 · rw[List.getElem?_take,if_neg hi,List.getElem?_eq_none (by simpa using hi)]
end Go.Hl
namespace Go.Hl
open Go Go.RowKit Go.Sort Go.Pl
theorem aI6 {P:Program}{f:FuncId}{e:TypeId}{l:List Dig}(hok:eO P f=true)(hbig:l.length*32≤140737488355328)
  (hc: ∀(b off c:Nat) (w:World),(∀j u,(l.flatMap eC)[j]? =some u→w.cell? ⟨b,off+j,none⟩=some u)→Calls P f #[.slice (some ⟨b,off,none⟩) l.length c] w fun x w'=> ∃v',x= .returned v'∧w'.ownsRow w.heap.size e 32 v' l.length (l.flatMap eC)∧v'≠ .slice none 0 0∧Below w.heap.size w w')
  (hc0: ∀(c:Nat) (w:World),Calls P f #[.slice none 0 c] w fun x w'=>x= .returned (.slice none 0 0)∧w'=w)
  (hcz: ∀(a:Addr) (c:Nat) (w:World),Calls P f #[.slice (some a) 0 c] w fun x w'=> ∃v',x= .returned v'∧w'.ownsRow w.heap.size e 32 v' 0 []∧v'≠ .slice none 0 0∧Below w.heap.size w w'):
  cF P f [.slc (l.map dg)] (fun v=>v= .slc (l.map dg)):=by
 refine⟨qZ hok,fun w ρ X xs hS hA hX=>Does.of hok ?_⟩;have done: ∀(w':World) (v:Value),w'.ownsRow w.heap.size e 32 v l.length (l.flatMap eC)→Below w.heap.size w w'→ ∃r ob' ρ' x,Ending.returned v= .returned x∧(∃u,r=HV.c u∧u= .slc (l.map dg)∧ob'=cZ)∧Gave w ρ X 0 r ob' w' ρ' x:=by
  intro w' v hrow hb;have hs2:Stay2 w (Own ρ) w' (Own ρ):=⟨fun g hg _=>hb.block g hg,fun _ h=> .inl h,hb.size,hb.os,hb.tape,hb.output⟩;have hst:=hs2.stay X;refine⟨_,_,ρ,v,rfl,⟨_,rfl,rfl,rfl⟩,⟨?_,⟨fun i o ho=>by simp[cZ]at ho,hS.none,hS.apart,hS.xb⟩,by simp[HV.men],fun i o ho=>by simp[cZ]at ho,hs2,Moves.refl _ _⟩⟩;have hag:Value.isAgg' v=false:=by rcases hrow.2 with⟨rfl,_⟩|⟨g,cap,cur,rfl,_⟩<;>rfl
  refine bS ?_ rfl hag;simp only[RepC];rcases hrow.2 with⟨rfl,hz⟩|⟨g,cap,cur,rfl,hg0,hg,hcap,_⟩
  · have:l=[]:=List.eq_nil_of_length_eq_zero hz;exact⟨none,0,[],32,by simp[this],by simp[this,RepL],by simp[this],by simp[this],fun _=>rfl,fun ad had=>(by cases had)⟩
  ·
   refine⟨some ⟨g,0,none⟩,cap,l.flatMap eC,32,by simp,mB.2 rfl,fun u hu=>?_,by simp;exact hcap,fun hh=>(by cases hh),fun ad had=>?_⟩
   · obtain⟨k,_,rfl⟩:=List.mem_map.1 hu;exact dg_cells k
   ·
    cases had;refine⟨hrow.cells (g:=g) rfl,fun _=>?_⟩;rintro(hx|⟨i,L,h1,h2⟩)
    · have:g<w.heap.size:=hX g hx;omega
    · have:g<w.heap.size:=Owned.lt hS h1 h2;omega
 simp only[List.map_cons,List.map_nil,bM,RepHV]at hA;obtain⟨x,zs,rfl,hx,rfl⟩:=hA;have h1:=RepV.single hx rfl;simp only[RepC,List.cons.injEq,and_true]at h1;obtain⟨a,cap,ys,sz,rfl,h2,_,h4,h5,h6⟩:=h1;have hys:=mB.1 h2;subst hys;simp only[List.length_map];cases a with
 |none=>
  have hz:=h5 rfl;have hl0:l=[]:=by
   refine List.eq_nil_of_length_eq_zero ?_;simp only[List.length_map]at h4;omega
  subst hl0;refine(hc0 cap w).mono ?_;rintro ex w' ⟨rfl,rfl⟩;exact done w' _ ⟨rfl,.inl ⟨rfl,rfl⟩⟩ (Below.refl _ _)
 |some ad=>
  have hr:=(h6 ad rfl).1;by_cases hl0:l=[]
  · subst hl0;refine(hcz ad cap w).mono ?_;rintro ex w' ⟨v',rfl,hrow,_,hb⟩;exact done w' v' hrow hb
  ·
   have hpos:0<l.length:=List.length_pos_iff.2 hl0;have hspot:ad.spot=none:=by
    obtain⟨u,hu⟩: ∃u,(l.flatMap eC)[0]? =some u:=⟨(l.flatMap eC)[0]'(by rw[sS];omega),List.getElem?_eq_getElem _⟩;have:=hr 0 u hu;simp only[World.cell?]at this;split at this
    ·
     split at this
     · cases this
     · rename_i hh;simpa[Addr.add]using hh
    · cases this
   obtain⟨b,off,spot⟩:=ad;simp only at hspot;subst hspot;refine(hc b off cap w fun j u hj=>?_).mono ?_
   ·
    have:=hr j u hj;have e:(⟨b,off,none⟩:Addr).add j=⟨b,off+j,none⟩:=by
     by_cases h0:j=0
     · subst h0;rfl
     · simp[Addr.add,h0]
    rwa [e]at this
   · rintro ex w' ⟨v',rfl,hrow,_,hb⟩;exact done w' v' hrow hb
end Go.Hl
namespace Go.Proofs.YthedbjfipmkpiaaGreatDoor
open Go Go.Hl Go.Pl Go.Sort Go.RowKit Go.Lib
set_option maxRecDepth 100000
set_option maxHeartbeats 16000000 in
theorem aR2 (news:List Value)(n b off c:Nat)(w:World)(hl:news.length=n*32)(hbig:n*32≤140737488355328)(h1: ∀u∈news,u.oneCell'=true)(hc: ∀j u,news[j]? =some u→w.cell? ⟨b,off+j,none⟩=some u):
  Calls Tryz.prog 104 #[.slice (some ⟨b,off,none⟩) n c] w fun e w'=> ∃v',e= .returned v'∧w'.ownsRow w.heap.size 44 32 v' n news∧v'≠ .slice none 0 0∧Below w.heap.size w w':=by
 obtain⟨i0,hi,hz⟩:=Option.map_eq_some_iff.1 (show(Tryz.prog.info? 44).map (fun i=>(i.zero,i.size,i.bytes))=some (some (.agg (Array.replicate 32 (.int .u8 0))),32,32)from by kernel_rfl);simp only[Prod.mk.injEq]at hz;have q24: ∀(w:World) (a:Option Addr) (n c n' c':Nat),(binOp .eql 39 (.slice a n c) (.slice none n' c')).run Tryz.prog w= .ok (.bool a.isNone) w:=fun w a n c n' c'=>Lib.run_eql_slice_nil w _ _ a n c n' c' Tryz.underlying39;have A:Aside (∀j u,news[j]? =some u→w.cell? ⟨b,off+j,none⟩=some u):=hc;clear hc
 go_enter Tryz.func104,Tryz.ntmps104
 go_wp2_with (at_builtin;refine wpList_append_own _ rfl _ _ 39 rfl w.heap.size 44 i0 (.agg (Array.replicate 32 (.int .u8 0))) 32 32 Tryz.underlying39 hi hz.1 hz.2.1 hz.2.2 rfl (by decide) _ _ _ rfl (World.ownsRow_made w #[] 0 (Nat.le_refl _) (Nat.zero_le _) rfl) ⟨b,off,none⟩ n c news rfl hl ?qc2 h1 ?qc4 ?qc5 ?qc6 ?_)
 case qc2=>
  intro j u hj;rw[Addr.add_lit];exact Lib.cell?_alloc_some _ (A.out j u hj)
 case qc4=>unfold maxLen;omega
 case qc5=>omega
 case qc6=>simp
 intro v' w1 hown hgrow hnil
 go_wp2
 go_ret
 refine⟨v',rfl,by simpa using hown,?_,?_⟩
 · exact hnil
 exact((Below.refl _ w).alloc (Nat.le_refl _) _).grown hgrow (by simp) (by intro k hk;simp[Value.ownBlock]at hk;omega)
set_option maxHeartbeats 1000000 in
theorem bL9 (c:Nat)(w:World):Calls Tryz.prog 104 #[.slice none 0 c] w fun e w'=>e= .returned (.slice none 0 0)∧w'=w:=by
 have q24: ∀(w:World) (a:Option Addr) (n c n' c':Nat),(binOp .eql 39 (.slice a n c) (.slice none n' c')).run Tryz.prog w= .ok (.bool a.isNone) w:=fun w a n c n' c'=>Lib.run_eql_slice_nil w _ _ a n c n' c' Tryz.underlying39
 go_enter Tryz.func104,Tryz.ntmps104
 go_wp2
 go_ret
 exact⟨rfl,rfl⟩
set_option maxHeartbeats 16000000 in
theorem aX6 (a:Addr)(c:Nat)(w:World):Calls Tryz.prog 104 #[.slice (some a) 0 c] w fun e w'=> ∃v',e= .returned v'∧w'.ownsRow w.heap.size 44 32 v' 0 []∧v'≠ .slice none 0 0∧Below w.heap.size w w':=by
 obtain⟨i0,hi,hz⟩:=Option.map_eq_some_iff.1 (show(Tryz.prog.info? 44).map (fun i=>(i.zero,i.size,i.bytes))=some (some (.agg (Array.replicate 32 (.int .u8 0))),32,32)from by kernel_rfl);simp only[Prod.mk.injEq]at hz;have q24: ∀(w:World) (a:Option Addr) (n c n' c':Nat),(binOp .eql 39 (.slice a n c) (.slice none n' c')).run Tryz.prog w= .ok (.bool a.isNone) w:=fun w a n c n' c'=>Lib.run_eql_slice_nil w _ _ a n c n' c' Tryz.underlying39
 go_enter Tryz.func104,Tryz.ntmps104
 go_wp2_with (at_builtin;refine wpList_append_own _ rfl _ _ 39 rfl w.heap.size 44 i0 (.agg (Array.replicate 32 (.int .u8 0))) 32 32 Tryz.underlying39 hi hz.1 hz.2.1 hz.2.2 rfl (by decide) _ _ _ rfl (World.ownsRow_made w #[] 0 (Nat.le_refl _) (Nat.zero_le _) rfl) a 0 c [] rfl rfl (by intro j u hj;simp at hj) (by intro u hu;cases hu) (by unfold maxLen;omega) (by omega) (by simp) ?_)
 intro v' w1 hown hgrow hnil
 go_wp2
 go_ret
 refine⟨v',rfl,by simpa using hown,?_,?_⟩
 · first|exact hnil|(intro e;exact absurd (hnil.1 e).1 (by simp))
 exact((Below.refl _ w).alloc (Nat.le_refl _) _).grown hgrow (by simp) (by intro k hk;simp[Value.ownBlock]at hk;omega)
theorem bM0 (l:List Dig)(hl:l.length<2^42):cF Tryz.prog 104 [.slc (l.map dg)] (fun v=>v= .slc (l.map dg)):=
 aI6 (e:=44) (by kernel_rfl) (by omega) (fun b off c w hc=>aR2 (l.flatMap eC) l.length b off c w (sS l) (by omega) (fun u hu=>by
  obtain⟨d,_,hu⟩:=List.mem_flatMap.1 hu;obtain⟨x,_,rfl⟩:=List.mem_map.1 hu;rfl) hc) bL9 aX6
end Go.Proofs.YthedbjfipmkpiaaGreatDoor
namespace Go.Proofs.YthedbjfipmkpiaaGreatDoor
open Go Go.Hl Go.Pl
set_option maxRecDepth 10000
set_option maxHeartbeats 16000000
theorem cG7 (n:Nat)(ob:Ob)(e:TypeId)(sz:Nat)(v:HV)(L:List CV)(t:TypeId):iV (sub [0,1] n) ob 0 [.box t v,.row e sz L]=upd (upd ob 0 (some ((HO.box t v).ren (sub [0,1] n)))) 1 (some (.row e sz L)):=rfl
theorem vR (n:Nat)(ob:Ob)(l:List Nd)(S:List Sp)(W:List Ln)(m:Nat):iV (sub [0,1] n) ob 0 (osP l S W m)=upd (upd ob 0 (some (.box 80 (pvb l S (cE 1 W.length 4 m))))) 1 (some (.row 41 4 (W.map Ln.cv))):=by
 rw[cG7];simp[HO.ren,HV.ren,HV.renL,pvb,jP,sub]
theorem vS (n:Nat)(t:TypeId)(l:List Nd)(S:List Sp)(a m:Nat):(HO.box t (pvb l S (cE 1 a 4 m))).ren (sub [0,1] n)= .box t (pvb l S (cE 1 a 4 m)):=by
 simp[HO.ren,HV.ren,HV.renL,pvb,jP,sub]
variable {l:List Nd}{ob:Ob}
theorem kJ {a0 b0:CV}{S:List Sp}{W:List Ln}{m:Nat}{u:HV}{R:HV→List HO→Prop}(hr:u= .tup [.c a0,.c b0])(h0:ob 0=some (.box 80 (pvb l S (cE 1 W.length 4 m))))(h1:ob 1=some (.row 41 4 (W.map Ln.cv)))(hR:R (.tup [.c a0.denil,.c b0.denil]) (osP l S W m)):
  iK 2 u ob (fun r ob'=> ∃os',ob'=lst os'∧(2≤os'.length∧os'.length≤2+4)∧R r os'):=by
 subst hr;refine gN [] [] (.tup [.c a0.denil,.c b0.denil]) (osP l S W m) (by simp[HV.close,HV.closeL,HV.norm,HV.toC,HV.toCL,HV.ren,HV.renL]) (by simp[HV.men,HV.menL]) ⟨⟨by simp[HO.men,HV.men,HV.menL,pvb,bN],by simp,_,h0,?_⟩,⟨by simp[HO.men],by simp,_,h1,rfl⟩,trivial⟩ rfl List.nodup_nil (by simp) (by simp) hR;simp[pvb,HO.close,HV.close,HV.closeL,sQ m W.length h1,CV.denil,denilL_Nd,cM,denilL_Sp,aM8,HV.norm,HV.toC,HV.toCL,HO.ren,HV.ren,HV.renL,aR,qQ,jP,tau]
theorem aX7 (l:List Nd)(h:l.length<2^40):(dE l).length<2^40:=by
 unfold dE;split
 · rw[fZ];have:=bA1 l;omega
 simp
theorem cJ2 (n:Nat)(v:CV):HV.ren (sub [0,1] n) (.c v)= .c v:=rfl
theorem bY8 (l:List Nd)(htb:dN l=true)(S:List Sp)(hS:S.length<2^40)(hd: ∀x∈S,x.d.length<2^42)(W:List Ln)(m i:Nat)(hm:m≤W.length)(hW:W.length<2^39)(hi:i<l.length)(hk:l[i].k=1):
  HGe Tryz.prog 74 [.ptr 0 0,.c (.int .i64 i)] (osP l S W m) (fun r os'=>r= .tup [.c (.int .i64 (if(S.getD (lv (l.take i)) sp0).h then m else 0)),.c (.bool (S.getD (lv (l.take i)) sp0).h)]∧os'=if(S.getD (lv (l.take i)) sp0).h then osP l S (oD W m (jE l S i)) (m+1)else osP l S W m):=by
 refine bQ (args:=[.ptr 0 0,.c (.int .i64 i)]) Tryz.func74 rfl (by kernel_rfl) (eS rfl (by simp[pvb,dL,HO.men,HV.men,HV.menL,bN]) (by simp[HV.menL,HV.men])) (Nat.le_of_ble_eq_true rfl) ?_;show Hw _ _ 2 _ _ _ (lst _) 2;rw[bY7];have hlv:dE l=dZ 0 l:=kH htb;have hat:=aP9 hi hk;have hll:=(eM htb).len;obtain⟨k,hkk⟩: ∃k,k=lv (l.take i):=⟨_,rfl⟩;rw[←hkk]at hat;have hneed:jE l S i=⟨1,i,(S.getD k sp0).d,[]⟩:=by rw[jE,←hkk]
 rw[←hkk,hneed];refine aC fun K hK=>aD (by kernel_rfl) ?_;simp (maxSteps:=4000000) only[↓sP,sA,tyS,simprocAttr];repeat refine AI ?_
 refine hK _ _ _ ?_;clear hK K;refine aC fun K hK=>aD (by kernel_rfl) ?_;simp only[sR,simprocAttr];iterate 5
  (refine aE (g:=none) rfl rfl fun K' hK'=>?_;simp only[sH,↓sP,sA,tyS,simprocAttr,pvb,aY,aS,aR,cM,denilL_dg];(repeat refine AI ?_);refine hK' _ _ ?_;clear hK' K')
 refine aE (g:=none) rfl rfl fun K' hK'=>?_;simp (maxSteps:=4000000) only[sH,↓sP,sA,tyS,simprocAttr,pvb,aY,aS,aR,cM,denilL_dg];refine cB (args:=[_,_]) (bL8 (dE l) i (aX7 l (by omega))) ⟨rfl,rfl,rfl,rfl⟩ ?_;rintro u hu;obtain rfl:=hu k (fun j hj h=>by rw[hlv]at h;have:=bK9 hi hk h;omega) (by rw[hlv];exact hat);repeat refine AI ?_
 refine hK' _ _ ?_;clear hK' K';refine aE (g:=none) rfl rfl fun K' hK'=>?_;simp (maxSteps:=4000000) only[sH,↓sP,sA,tyS,simprocAttr,pvb,aY,aS,aR,cM,denilL_dg];repeat refine AI ?_
 refine hK' _ _ ?_;clear hK' K';simp only[sE,↓reduceIte,simprocAttr];repeat refine AI ?_
 refine hK _ _ _ ?_;clear hK K;refine aC fun K hK=>?_;by_cases hlt:k<S.length
 ·
  have hg:S.getD k sp0=S[k]:=by simp[List.getD_eq_getElem?_getD,hlt]
  have hge:decide ((k:Int)≥(S.length:Int))=false:=by simp;omega
  refine aC fun K hK=>aD (by kernel_rfl) ?_;simp only[sR,simprocAttr];iterate 8
   (refine aE (g:=none) rfl rfl fun K' hK'=>?_;simp only[sH,↓sP,sA,tyS,simprocAttr,pvb,aY,aS,aR,cM,denilL_dg,hge,Int.natCast_nonneg,Int.ofNat_lt,hlt,aU hlt];(repeat refine AI ?_);refine hK' _ _ ?_;clear hK' K')
  iterate 9
   (refine aE (g:=some (20,false)) rfl rfl fun K' hK'=>?_;simp only[sH,↓sP,sA,tyS,simprocAttr,pvb,aY,aS,aR,cM,denilL_dg,hge,Int.natCast_nonneg,Int.ofNat_lt,hlt,aU hlt];(repeat refine AI ?_);refine hK' _ _ ?_;clear hK' K')
  refine aE (g:=none) rfl rfl fun K' hK'=>?_;simp (maxSteps:=4000000) only[sH,↓sP,sA,tyS,simprocAttr,pvb,aY,aS,aR,cM,denilL_dg,hge,Int.natCast_nonneg,Int.ofNat_lt,hlt,aU hlt];repeat refine AI ?_
  refine hK' _ _ ?_;clear hK' K';simp only[sE,↓reduceIte,simprocAttr];repeat refine AI ?_
  refine hK _ _ _ ?_;clear hK K;refine aJ (b:=!S[k].h) rfl (fun hb=>?_) (fun hb=>?_)
  ·
   have hh:S[k].h=false:=by simpa using hb
   refine aC fun K hK=>aD (by kernel_rfl) ?_;simp (maxSteps:=4000000) only[↓sP,sA,tyS,simprocAttr];repeat refine AI ?_
   refine hK _ _ _ ?_;clear hK K;refine aH ?_;simp (maxSteps:=4000000) only[bK,Tryz.results74,bH,bJ,bG,↓sP,sA,tyS,simprocAttr];exact kJ (W:=W) (m:=m) rfl rfl rfl ⟨by rw[hg,hh];rfl,by rw[hg,hh];rfl⟩
  have hh:S[k].h=true:=by simpa using hb
  refine aN ?_;simp (maxSteps:=4000000) only[↓sP,sA,tyS,simprocAttr];repeat refine AI ?_
  refine hK _ _ _ ?_;clear hK K;refine aC fun K hK=>aD (by kernel_rfl) ?_;simp only[sR,simprocAttr];iterate 10
   (refine aE (g:=none) rfl rfl fun K' hK'=>?_;simp only[sH,↓sP,sA,tyS,simprocAttr,pvb,aY,aS,aR,cM,denilL_dg,Int.natCast_nonneg,Int.ofNat_lt,hlt,aU hlt];(repeat refine AI ?_);refine hK' _ _ ?_;clear hK' K')
  refine aE (g:=none) rfl rfl fun K' hK'=>?_;simp (maxSteps:=4000000) only[sH,↓sP,sA,tyS,simprocAttr,pvb,aY,aS,aR,cM,denilL_dg,Int.natCast_nonneg,Int.ofNat_lt,hlt,aU hlt];refine cB (args:=[_]) (bM0 S[k].d (hd _ (List.getElem_mem hlt))) ⟨rfl,rfl,rfl,rfl⟩ ?_;rintro u rfl;repeat refine AI ?_
  refine hK' _ _ ?_;clear hK' K';refine aE (g:=none) rfl rfl fun K' hK'=>?_;simp (maxSteps:=4000000) only[sH,↓sP,sA,tyS,simprocAttr,pvb,aY,aS,aR,cM,denilL_dg,Int.natCast_nonneg,Int.ofNat_lt,hlt,aU hlt];repeat refine AI ?_
  refine hK' _ _ ?_;clear hK' K';refine aE (g:=none) rfl rfl fun K' hK'=>?_;simp (maxSteps:=4000000) only[sH,↓sP,sA,tyS,simprocAttr,pvb,aY,aS,aR,cM,denilL_dg,Int.natCast_nonneg,Int.ofNat_lt,hlt,aU hlt];refine eQ [0,1] (aI5 l S W m ⟨1,i,S[k].d,[]⟩ hm (by omega)) rfl ⟨(by rw[vS];rfl),rfl,trivial⟩ (by simp) (by simp) ⟨rfl,rfl,rfl,rfl⟩ (by simp[dL,HO.men,HV.men,HV.menL,bN]) (by simp[HV.menL,HV.men]) ?_;rintro r os' ⟨rfl,rfl⟩;rw[vR,cJ2];repeat refine AI ?_
  refine hK' _ _ ?_;clear hK' K';iterate 2
   (refine aE (g:=none) rfl rfl fun K' hK'=>?_;simp only[sH,↓sP,sA,tyS,simprocAttr,pvb,aY,aS,aR,cM,denilL_dg,Int.natCast_nonneg,Int.ofNat_lt,hlt,aU hlt];(repeat refine AI ?_);refine hK' _ _ ?_;clear hK' K')
  simp only[sE,↓reduceIte,simprocAttr];repeat refine AI ?_
  refine hK _ _ _ ?_;clear hK K;refine aH ?_;simp (maxSteps:=4000000) only[bK,Tryz.results74,bH,bJ,bG,↓sP,sA,tyS,simprocAttr];exact kJ (W:=oD W m ⟨1,i,S[k].d,[]⟩) (m:=m+1) rfl rfl rfl ⟨by rw[hg,hh];rfl,by rw[hg,hh];rfl⟩
 have hg:S.getD k sp0=sp0:=by simp[List.getD_eq_getElem?_getD,hlt]
 have hge:decide ((k:Int)≥(S.length:Int))=true:=by simp;omega
 refine aC fun K hK=>aD (by kernel_rfl) ?_;simp only[sR,simprocAttr];iterate 8
  (refine aE (g:=none) rfl rfl fun K' hK'=>?_;simp only[sH,↓sP,sA,tyS,simprocAttr,pvb,aY,aS,aR,cM,denilL_dg,hge];(repeat refine AI ?_);refine hK' _ _ ?_;clear hK' K')
 iterate 9
  (refine aE (g:=some (20,false)) rfl rfl fun K' hK'=>?_;simp only[sH,↓sP,sA,tyS,simprocAttr,pvb,aY,aS,aR,cM,denilL_dg,hge];(repeat refine AI ?_);refine hK' _ _ ?_;clear hK' K')
 refine aE (g:=none) rfl rfl fun K' hK'=>?_;simp (maxSteps:=4000000) only[sH,↓sP,sA,tyS,simprocAttr,pvb,aY,aS,aR,cM,denilL_dg,hge];repeat refine AI ?_
 refine hK' _ _ ?_;clear hK' K';simp only[sE,↓reduceIte,simprocAttr];repeat refine AI ?_
 refine hK _ _ _ ?_;clear hK K;refine aJ (b:=true) rfl (fun hb=>?_) (fun hb=>?_)
 ·
  refine aC fun K hK=>aD (by kernel_rfl) ?_;simp (maxSteps:=4000000) only[↓sP,sA,tyS,simprocAttr];repeat refine AI ?_
  refine hK _ _ _ ?_;clear hK K;refine aH ?_;simp (maxSteps:=4000000) only[bK,Tryz.results74,bH,bJ,bG,↓sP,sA,tyS,simprocAttr];exact kJ (W:=W) (m:=m) rfl rfl rfl ⟨by rw[hg];rfl,by rw[hg];rfl⟩
 cases hb
def cS0 (l:List Nd)(S:List Sp)(f i:Nat)(W:List Ln)(m:Nat)(r:HV)(os':List HO):Prop:=
 ∃(W':List Ln) (m':Nat),r= .tup [.c (.int .i64 (if dB l (cG S) i then(m':Int)-1 else 0)),.c (.bool (dB l (cG S) i))]∧os'=osP l S W' m'∧m'≤W'.length∧W'.length≤W.length+(aft l i-i)∧W'.take m'=if dB l (cG S) i then prv l S f i (W.take m)else W.take m
theorem bY9 (n:Nat)(a b:CV):HV.ren (sub [0,1] n) (.tup [.c a,.c b])= .tup [.c a,.c b]:=rfl
theorem aI7 (id n sz m:Nat){cl:List Nat}(h:id∉cl):(cE id n sz m).close ob cl=cE id n sz m:=by
 unfold cE;split<;>simp[HV.close,h]
theorem yU {l:List Nd}(ht:IsTree l){i:Nat}(hi:i<l.length){j:Nat}: ∀d,j+d≤l[i].c.toNat→cA l j (i+1)≤cA l (j+d) (i+1)
 |0,_=>Nat.le_refl _
 |d+1,h=>by
  have h1:=yU ht hi (j:=j) d (by omega);have h2:=(eZ ht (gK ht hi (k:=j+d) (by omega))).1;rw[←Nat.add_assoc,cI];omega
theorem oX (ht:IsTree l){i:Nat}(hi:i<l.length){j:Nat}(h:j≤l[i].c.toNat):cA l j (i+1)≤aft l i:=by
 have h1:=yU ht hi (j:=j) (l[i].c.toNat-j) (by omega);rw[show j+(l[i].c.toNat-j)=l[i].c.toNat from by omega,iM ht hi]at h1;exact h1
theorem aI8 {l:List Nd}{S:List Sp}{f i:Nat}{out:List Ln}: ∀j,(gS l S f i j out).2.length≤j
 |0=>by simp[lP]
 |j+1=>by
  have h1:=aI8 (l:=l) (S:=S) (f:=f) (i:=i) (out:=out) j;rw[eH,mW];split
  · simp only[List.length_append,List.length_cons,List.length_nil];omega
  omega
structure PvSt (l:List Nd)(S:List Sp)(g i:Nat)(W:List Ln)(m j:Nat)(W':List Ln)(m':Nat)(F:List Int):Prop where
 le:m'≤W'.length
 len:W'.length+(i+1)≤W.length+cA l j (i+1)
 out:W'.take m'=(gS l S g i j (W.take m)).1
 fr:F=(gS l S g i j (W.take m)).2
theorem uB {l:List Nd}{S:List Sp}{g i:Nat}{out:List Ln}: ∀{j:Nat} (k:Nat),(gS l S g i j out).2.length=wantN (l.getD i nd0)→gS l S g i (j+k) out=gS l S g i j out
 |j,0,_=>rfl
 |j,k+1,h=>by
  have ih:=uB (l:=l) (S:=S) (g:=g) (i:=i) (out:=out) k h;rw[←Nat.add_assoc,eH,ih,mW,if_neg (fun hc=>by omega)]
theorem bZ0 (l:List Nd)(htb:dN l=true)(hn: ∀n∈l,n.q.t.length<2^63)(S:List Sp)(hS:S.length<2^40)(hd: ∀x∈S,x.d.length<2^42)(f:Nat): ∀(W:List Ln) (m i:Nat),i<l.length→l.length-i≤f→m≤W.length→W.length+(aft l i-i)<2^39→
  HGe Tryz.prog 37 [.ptr 0 0,.c (.int .i64 i)] (osP l S W m) (cS0 l S f i W m):=by
 induction f using Nat.strongRecOn with
 |ind f ih=>?_
 intro W m i hi hf hm hW;refine bQ (args:=[.ptr 0 0,.c (.int .i64 i)]) Tryz.func37 rfl (by kernel_rfl) (eS rfl (by simp[pvb,dL,HO.men,HV.men,HV.menL,bN]) (by simp[HV.menL,HV.men])) (Nat.le_of_ble_eq_true rfl) ?_;show Hw _ _ 2 _ _ _ (lst _) 2;rw[bY7];have ht:=eM htb;have hgd:l.getD i nd0=l[i]:=rL hi;have haf:=eZ ht hi;obtain⟨g,rfl⟩: ∃g,f=g+1:=⟨f-1,by omega⟩;refine aC fun K hK=>aD (by kernel_rfl) ?_;simp (maxSteps:=4000000) only[↓sP,sA,tyS,simprocAttr];repeat refine AI ?_
 refine hK _ _ _ ?_;clear hK K;refine aC fun K hK=>aD (by kernel_rfl) ?_;simp only[sR,simprocAttr];iterate 9
  (refine aE (g:=none) rfl rfl fun K' hK'=>?_;simp only[sH,↓sP,sA,tyS,simprocAttr,pvb,aY,aS,aR,cM,Int.natCast_nonneg,Int.ofNat_lt,hi,aU hi];(repeat refine AI ?_);refine hK' _ _ ?_;clear hK' K')
 simp only[sE,↓reduceIte,simprocAttr];repeat refine AI ?_
 refine hK _ _ _ ?_;clear hK K;refine aC fun K hK=>?_;refine aC fun K hK=>aD (by kernel_rfl) ?_;simp (maxSteps:=4000000) only[↓sP,sA,tyS,simprocAttr];repeat refine AI ?_
 refine hK _ _ _ ?_;clear hK K;refine aJ (b:=(l[i].k==1)) rfl (fun hb=>?_) (fun hb=>?_)
 ·
  have hk:l[i].k=1:=by simpa using hb
  have hv:dB l (cG S) i=(S.getD (lv (l.take i)) sp0).h:=by rw[mH hi hk,aM6]
  clear hb;refine aC fun K hK=>aD (by kernel_rfl) ?_;simp only[sR,simprocAttr];iterate 2
   (refine aE (g:=none) rfl rfl fun K' hK'=>?_;simp only[sH,↓sP,sA,tyS,simprocAttr];(repeat refine AI ?_);refine hK' _ _ ?_;clear hK' K')
  refine aE (g:=none) rfl rfl fun K' hK'=>?_;simp (maxSteps:=4000000) only[sH,↓sP,sA,tyS,simprocAttr];refine eQ [0,1] (bY8 l htb S hS hd W m i hm (by omega) hi hk) rfl ⟨(by rw[vS];rfl),rfl,trivial⟩ (by simp) (by simp) ⟨rfl,rfl,rfl,rfl⟩ (by simp[dL,HO.men,HV.men,HV.menL,bN]) (by simp[HV.menL,HV.men]) ?_;rintro r os' ⟨rfl,hos⟩;obtain⟨W',m',hos2,g1,g2,g3,g4⟩: ∃(W':List Ln) (m':Nat),os'=osP l S W' m'∧(if(S.getD (lv (l.take i)) sp0).h then(m:Int)else 0)=(if dB l (cG S) i then(m':Int)-1 else 0)∧m'≤W'.length∧W'.length≤W.length+(aft l i-i)∧W'.take m'=if dB l (cG S) i then prv l S (g+1) i (W.take m)else W.take m:=by
   rw[hv];cases hh:(S.getD (lv (l.take i)) sp0).h with
   |true=>
    rw[hh]at hos;refine⟨_,_,hos,by simp,by rw[kI hm];omega,by rw[kI hm];omega,?_⟩;rw[uA hm,if_pos rfl,jX (by rw[hgd];exact hk)]
   |false=>
    rw[hh]at hos;exact⟨_,_,hos,by simp,hm,by omega,by simp⟩
  subst hos2;rw[vR,bY9];repeat refine AI ?_
  refine hK' _ _ ?_;clear hK' K';iterate 4
   (refine aE (g:=none) rfl rfl fun K' hK'=>?_;simp only[sH,↓sP,sA,tyS,simprocAttr];(repeat refine AI ?_);refine hK' _ _ ?_;clear hK' K')
  simp only[sE,↓reduceIte,simprocAttr];repeat refine AI ?_
  refine hK _ _ _ ?_;clear hK K;refine aH ?_;simp (maxSteps:=4000000) only[bK,Tryz.results37,bH,bJ,bG,↓sP,sA,tyS,simprocAttr];exact kJ (W:=W') (m:=m') rfl rfl rfl ⟨W',m',by rw[←g1,hv];rfl,rfl,g2,g3,g4⟩
 have hk:l[i].k≠1:=by simpa using hb
 clear hb;have hvd:=aV0 ht S hi hk;have hnb:=ht.node _ (List.getElem_mem hi);obtain⟨c1,c2,c3,c4⟩:=eL hnb;have hkn:l[i].k=2∨l[i].k=3∨(l[i].k=4∧1≤l[i].n):=by
  unfold cW inB at hnb;grind
 have hc1:=c4 hk;refine aN ?_;simp (maxSteps:=4000000) only[↓sP,sA,tyS,simprocAttr];repeat refine AI ?_
 refine hK _ _ _ ?_;clear hK K;refine aC fun K hK=>gY mixed (by kernel_rfl) (by kernel_rfl) (by kernel_rfl) ?_;simp only[sR,simprocAttr];iterate 4
  (refine aE (g:=none) rfl rfl fun K' hK'=>?_;simp only[sH,↓sP,sA,tyS,simprocAttr];(repeat refine AI ?_);refine hK' _ _ ?_;clear hK' K')
 simp only[sE,↓reduceIte,simprocAttr];repeat refine AI ?_
 refine hK _ _ _ ?_;clear hK K;refine aC fun K hK=>?_;have key: ∀fr ob nx,Fits 2 fr ob (fin [(0,.ptr 0 0),(1,.c (.int .i64 i)),(7,.c (.int .i64 (eA l[i]))),(8,.c (.int .i64 (wantN l[i]:Nat)))]) (fob [(0,.box 80 (pvb l S (cE 1 W.length 4 m))),(1,.row 41 4 (W.map Ln.cv))]) 100→K fr ob nx:=by
  rintro fr ob nx hf;refine hK _ _ _ (bO hf ?_);clear hf hK K;refine aC fun K hK=>?_;have key: ∀fr ob nx,Fits 2 fr ob (fin [(0,.ptr 0 0),(1,.c (.int .i64 i)),(7,.c (.int .i64 (eA l[i]))),(8,.c (.int .i64 (wantN l[i]:Nat))),(9,.c (.int .i64 m))]) (fob [(0,.box 80 (pvb l S (cE 1 W.length 4 m))),(1,.row 41 4 (W.map Ln.cv))]) 200→K fr ob nx:=by
   rintro fr ob nx hf;refine hK _ _ _ (bO hf ?_);clear hf hK K;refine aC fun K hK=>aD (by kernel_rfl) ?_;simp (maxSteps:=4000000) only[↓sP,sA,tyS,simprocAttr];repeat refine AI ?_
   refine hK _ _ _ ?_;clear hK K;refine aC fun K hK=>?_;have key: ∀(W':List Ln) (m':Nat) (F:List Int) fr ob nx,PvSt l S g i W m l[i].c.toNat W' m' F→Fits 2 fr ob (fin [(0,.ptr 0 0),(1,.c (.int .i64 i)),(7,.c (.int .i64 (eA l[i]))),(8,.c (.int .i64 (wantN l[i]:Nat))),(9,.c (.int .i64 m)),(10,.own 236 F.length)]) (fob [(0,.box 80 (pvb l S (cE 1 W'.length 4 m'))),(1,.row 41 4 (W'.map Ln.cv)),(236,.row 3 1 (F.map (CV.int .i64)))]) 30000→K fr ob nx:=by
    rintro W' m' F fr ob nx hst hf;refine hK _ _ _ (bO hf ?_);clear hf hK K;have q1:=hst.le;have q2:=hst.len;have q3:=hst.out;have q4:=hst.fr;rw[iM ht hi]at q2;have q5:=rK l S g i (W.take m) l[i].c.toNat;rw[←q4,hgd]at q5;obtain⟨L,q6⟩:=bW4 l S g i l[i].c.toNat (W.take m);have hml:(W.take m).length=m:=by simp;omega
    have hm':m'=m+L.length:=by
     have h1:=congrArg List.length (q3.trans q6);rw[List.length_take,List.length_append,hml]at h1;omega
    have hWt:W'.take m=W.take m:=by
     have h1:(W'.take m').take m=(W.take m++L).take m:=by rw[q3.trans q6]
     rw[List.take_take,Nat.min_eq_left (by omega),List.take_append_of_le_length (by omega),List.take_take,Nat.min_self]at h1;exact h1
    refine aC fun K hK=>?_;refine aC fun K hK=>aD (by kernel_rfl) ?_;simp only[sR,simprocAttr];iterate 4
     (refine aE (g:=none) rfl rfl fun K' hK'=>?_;simp only[sH,↓sP,sA,tyS,simprocAttr];(repeat refine AI ?_);refine hK' _ _ ?_;clear hK' K')
    simp only[sE,↓reduceIte,simprocAttr];repeat refine AI ?_
    refine hK _ _ _ ?_;clear hK K;refine aJ (b:=decide ((F.length:Int)<(wantN l[i]:Nat))) rfl (fun hb=>?_) (fun hb=>?_)
    ·
     have hvf:dB l (cG S) i=false:=by
      rw[hvd];have:(F.length:Int)<(wantN l[i]:Nat):=of_decide_eq_true hb;simp;omega
     clear hb;by_cases hmW:m'=W'.length
     ·
      refine aC fun K hK=>cH (by kernel_rfl) ?_;simp only[sR,simprocAttr];iterate 6
       (refine aZ (g:=none) rfl rfl fun K' hK'=>?_;simp only[sH,↓sP,sA,tyS,simprocAttr,pvb,hmW,bZ,aY,aS,aR,List.length_map,Int.toNat_natCast];(repeat refine AI ?_);refine hK' _ _ ?_;clear hK' K')
      refine dA (g:=none) rfl rfl fun K' hK'=>?_;simp (maxSteps:=4000000) only[sN,↓hopH.eq_def,sH,↓sP,sA,tyS,simprocAttr,pvb,hmW,bZ,aY,aS,aR,List.length_map,Int.toNat_natCast];repeat refine AI ?_
      refine hK' _ _ ?_;clear hK' K';iterate 3
       (refine aZ (g:=none) rfl rfl fun K' hK'=>?_;simp only[sH,↓sP,sA,tyS,simprocAttr,pvb,hmW,bZ,aY,aS,aR,List.length_map,Int.toNat_natCast];(repeat refine AI ?_);refine hK' _ _ ?_;clear hK' K')
      simp only[sE,↓reduceIte,simprocAttr];repeat refine AI ?_
      refine hK _ _ _ ?_;clear hK K;refine aC fun K hK=>aD (by kernel_rfl) ?_;simp (maxSteps:=4000000) only[↓sP,sA,tyS,simprocAttr];repeat refine AI ?_
      refine hK _ _ _ ?_;clear hK K;refine aH ?_;simp (maxSteps:=4000000) only[bK,Tryz.results37,bH,bJ,bG,↓sP,sA,tyS,simprocAttr];exact kJ (W:=W') (m:=m) rfl rfl rfl ⟨W',m,by rw[hvf];rfl,rfl,by omega,by omega,by rw[hvf];exact hWt⟩
     refine aC fun K hK=>cH (by kernel_rfl) ?_;simp only[sR,simprocAttr];iterate 6
      (refine aZ (g:=none) rfl rfl fun K' hK'=>?_;simp only[sH,↓sP,sA,tyS,simprocAttr,pvb,bW hmW,aY,aS,aR,List.length_map,Int.toNat_natCast,Int.toNat_zero];(repeat refine AI ?_);refine hK' _ _ ?_;clear hK' K')
     refine dA (g:=none) rfl rfl fun K' hK'=>?_;simp (maxSteps:=4000000) only[sN,↓hopH.eq_def,sH,↓sP,sA,tyS,simprocAttr,pvb,bW hmW,aY,aS,aR,List.length_map,Int.toNat_natCast,Int.toNat_zero];repeat refine AI ?_
     refine hK' _ _ ?_;clear hK' K';iterate 3
      (refine aZ (g:=none) rfl rfl fun K' hK'=>?_;simp only[sH,↓sP,sA,tyS,simprocAttr,pvb,bW hmW,aY,aS,aR,List.length_map,Int.toNat_natCast,Int.toNat_zero];(repeat refine AI ?_);refine hK' _ _ ?_;clear hK' K')
     simp only[sE,↓reduceIte,simprocAttr];repeat refine AI ?_
     refine hK _ _ _ ?_;clear hK K;refine aC fun K hK=>aD (by kernel_rfl) ?_;simp (maxSteps:=4000000) only[↓sP,sA,tyS,simprocAttr];repeat refine AI ?_
     refine hK _ _ _ ?_;clear hK K;refine aH ?_;simp (maxSteps:=4000000) only[bK,Tryz.results37,bH,bJ,bG,↓sP,sA,tyS,simprocAttr];have hmn:m≠W'.length:=by omega
     exact kJ (W:=W') (m:=m) rfl (by rw[bW hmn];rfl) rfl ⟨W',m,by rw[hvf];rfl,rfl,by omega,by omega,by rw[hvf];exact hWt⟩
    have hge:wantN l[i]≤F.length:=by
     have h1:=of_decide_eq_false hb;omega
    have hvt:dB l (cG S) i=true:=by
     rw[hvd];simp;omega
    clear hb;refine aN ?_;simp (maxSteps:=4000000) only[↓sP,sA,tyS,simprocAttr];repeat refine AI ?_
    refine hK _ _ _ ?_;clear hK K;refine fC [236] (bO (fr2:=fin [(0,.ptr 0 0),(1,.c (.int .i64 i)),(7,.c (.int .i64 (eA l[i]))),(10,.c (.slc (F.map (CV.int .i64))))]) (ob2:=fob [(0,.box 80 (pvb l S (cE 1 W'.length 4 m'))),(1,.row 41 4 (W'.map Ln.cv))]) (nx2:=31000) (aM (by omega) (by simp[aW,fJ,fin_at,finA_at,upd_at,fob_at,HV.close,HV.closeL,CV.denil,CV.denilL,denilL_int,HV.men,HV.menL,HV.norm,HV.toC,HV.toCL]) (by simp[aX,gZ,fob_at,upd_at,none0_at,bI,HO.close,HV.close,HV.closeL,pvb,aI7,CV.denil,denilL_Nd,cM,denilL_Sp,qQ,aR,bN,HO.men,HV.men,HV.menL,HV.norm,HV.toC,HV.toCL])) ?_);refine aC fun K hK=>aD (by kernel_rfl) ?_;simp only[sR,simprocAttr];iterate 5
     (refine aE (g:=none) rfl rfl fun K' hK'=>?_;simp only[sH,↓sP,sA,tyS,simprocAttr,pvb,aY,aS,aR,denilL_int];(repeat refine AI ?_);refine hK' _ _ ?_;clear hK' K')
    refine aE (g:=none) rfl rfl fun K' hK'=>?_;simp (maxSteps:=4000000) only[sH,↓sP,sA,tyS,simprocAttr,pvb,aY,aS,aR,denilL_int];refine eQ [0,1] (aI5 l S W' m' ⟨eA l[i],i,[],F⟩ q1 (by omega)) rfl ⟨(by rw[vS];rfl),rfl,trivial⟩ (by simp) (by simp) ⟨rfl,rfl,rfl,rfl⟩ (by simp[dL,HO.men,HV.men,HV.menL,bN]) (by simp[HV.menL,HV.men]) ?_;rintro r os' ⟨rfl,rfl⟩;rw[vR,cJ2];repeat refine AI ?_
    refine hK' _ _ ?_;clear hK' K';iterate 2
     (refine aE (g:=none) rfl rfl fun K' hK'=>?_;simp only[sH,↓sP,sA,tyS,simprocAttr,pvb,aY,aS,aR,denilL_int];(repeat refine AI ?_);refine hK' _ _ ?_;clear hK' K')
    simp only[sE,↓reduceIte,simprocAttr];repeat refine AI ?_
    refine hK _ _ _ ?_;clear hK K;refine aH ?_;simp (maxSteps:=4000000) only[bK,Tryz.results37,bH,bJ,bG,↓sP,sA,tyS,simprocAttr];refine kJ (W:=oD W' m' ⟨eA l[i],i,[],F⟩) (m:=m'+1) rfl rfl rfl ⟨_,m'+1,by rw[hvt];simp[CV.denil],rfl,by rw[kI q1];omega,by rw[kI q1];omega,?_⟩;rw[uA q1,hvt,if_pos rfl,lQ (by rw[hgd];exact hk),hgd,←q4,←q3]
   refine aC fun K hK=>aD (by kernel_rfl) ?_;simp only[sR,simprocAttr];iterate 5
    (refine aE (g:=none) rfl rfl fun K' hK'=>?_;simp only[sH,↓sP,sA,tyS,simprocAttr,pvb,aY,aS,aR];(repeat refine AI ?_);refine hK' _ _ ?_;clear hK' K')
   refine aE (g:=none) rfl rfl fun K' hK'=>?_;simp (maxSteps:=4000000) only[sH,↓sP,sA,tyS,simprocAttr,pvb,aY,aS,aR];refine cB (args:=[_,_]) (aQ6 l hn i) ⟨rfl,rfl,rfl,rfl⟩ ?_;rintro u rfl;have hck:nR l i=cV l l[i].c.toNat (i+1):=oV htb hi;rw[hck];repeat refine AI ?_
   refine hK' _ _ ?_;clear hK' K';iterate 2
    (refine aE (g:=none) rfl rfl fun K' hK'=>?_;simp only[sH,↓sP,sA,tyS,simprocAttr,pvb,aY,aS,aR];(repeat refine AI ?_);refine hK' _ _ ?_;clear hK' K')
   simp only[sE,↓reduceIte,simprocAttr];repeat refine AI ?_
   refine hK _ _ _ ?_;clear hK K;refine aO ?_;refine iZ 10 0 3 1 rfl rfl rfl rfl ?_;refine bP (α:={y:Nat×List Ln×Nat×List Int//y.1≤l[i].c.toNat∧PvSt l S g i W m y.1 y.2.1 y.2.2.1 y.2.2.2}) (fun y=>(fin [(0,.ptr 0 0),(1,.c (.int .i64 i)),(7,.c (.int .i64 (eA l[i]))),(8,.c (.int .i64 (wantN l[i]:Nat))),(9,.c (.int .i64 m)),(10,.own 236 y.1.2.2.2.length),(50,.c (.slc ((cV l l[i].c.toNat (i+1)).map iC))),(51,.c (.int .i64 (l[i].c.toNat:Nat))),(52,.c (.int .i64 y.1.1))],fob [(0,.box 80 (pvb l S (cE 1 y.1.2.1.length 4 y.1.2.2.1))),(1,.row 41 4 (y.1.2.1.map Ln.cv)),(236,.row 3 1 (y.1.2.2.2.map (CV.int .i64)))])) 20000 (fun y=>l[i].c.toNat-y.1.1) ⟨(0,W,m,[]),Nat.zero_le _,⟨hm,by simp[cA],by rw[lP],by rw[lP]⟩⟩ (aM (by omega) (by simp[aW,fin_at,finA_at,upd_at,HV.men,HV.menL,HV.norm,HV.toC,HV.toCL,pvb,bN,aR,iL]) (by simp[aX,fob_at,upd_at,none0_at,bI,HO.men,HV.men,HV.menL,HV.norm,HV.toC,HV.toCL,pvb,bN,aR,iL])) ?_;rintro⟨⟨j,W',m',F⟩,hj,hst⟩;simp only at hj hst⊢;have q1:=hst.le;have q2:=hst.len;have q3:=hst.out;have q4:=hst.fr;have hkl:(cV l l[i].c.toNat (i+1)).length=l[i].c.toNat:=iL l _ _;refine aC fun K hK=>aD (by kernel_rfl) ?_;simp (maxSteps:=4000000) only[↓sP,sA,tyS,simprocAttr];repeat refine AI ?_
   refine hK _ _ _ ?_;clear hK K;refine aC fun K hK=>?_;refine aJ (b:=decide ((j:Int)<(l[i].c.toNat:Nat))) rfl (fun hb=>?_) (fun hb=>?_)
   ·
    have hlt:j<l[i].c.toNat:=by have:=of_decide_eq_true hb;omega
    have hltk:j<(cV l l[i].c.toNat (i+1)).length:=by rw[hkl];exact hlt
    have hel:(cV l l[i].c.toNat (i+1))[j]=cA l j (i+1):=by
     have h1:=jW l l[i].c.toNat (i+1) (j+1) hlt;rw[fT,List.take_succ_eq_append_getElem hltk,jW l _ _ _ hj]at h1;simpa using h1
    clear hb;have hkb:=gK ht hi hlt;have hks:=fU ht hi j (by omega);have hka:=eZ ht hkb;have hkn:=oX ht hi (j:=j+1) (by omega);rw[cI]at hkn;have hF1:=aI8 (l:=l) (S:=S) (f:=g) (i:=i) (out:=W.take m) j;rw[←q4]at hF1;have hF2:F.length+1≤maxLen:=by simp only[maxLen];omega
    have hF3:(F.length+1)*8≤140737488355328:=by omega
    refine aN ?_;simp (maxSteps:=4000000) only[↓sP,sA,tyS,simprocAttr];repeat refine AI ?_
    refine hK _ _ _ ?_;clear hK K;refine aC fun K hK=>?_;refine aO ?_;refine aC fun K hK=>aD (by kernel_rfl) ?_;simp (maxSteps:=4000000) only[↓sP,sA,tyS,simprocAttr,Int.natCast_nonneg,Int.ofNat_lt,hltk,aU hltk,hel,iC];repeat refine AI ?_
    refine hK _ _ _ ?_;clear hK K;refine aC fun K hK=>?_;refine aC fun K hK=>aD (by kernel_rfl) ?_;simp only[sR,simprocAttr];iterate 4
     (refine aE (g:=none) rfl rfl fun K' hK'=>?_;simp only[sH,↓sP,sA,tyS,simprocAttr,List.length_map];(repeat refine AI ?_);refine hK' _ _ ?_;clear hK' K')
    simp only[sE,↓reduceIte,simprocAttr];repeat refine AI ?_
    refine hK _ _ _ ?_;clear hK K;refine aJ (b:=((F.length:Int)==(wantN l[i]:Nat))) rfl (fun hb=>?_) (fun hb=>?_)
    ·
     refine bB ?_;simp (maxSteps:=4000000) only[↓sP,sA,tyS,simprocAttr];clear hK K;clear hK K;have hfl:F.length=wantN l[i]:=by
      have:(F.length:Int)=(wantN l[i]:Nat):=by simpa using hb
      omega
     have hsp:=uB (l:=l) (S:=S) (g:=g) (i:=i) (out:=W.take m) (j:=j) (l[i].c.toNat-j) (by rw[←q4,hgd];exact hfl);rw[show j+(l[i].c.toNat-j)=l[i].c.toNat from by omega]at hsp;refine key W' m' F _ _ _ ⟨q1,?_,by rw[hsp];exact q3,by rw[hsp];exact q4⟩ (aM (by omega) (by simp[aW,fin_at,finA_at,upd_at,HV.men,HV.menL,HV.norm,HV.toC,HV.toCL,pvb,bN,aR]) (by simp[aX,fob_at,upd_at,none0_at,bI,HO.men,HV.men,HV.menL,HV.norm,HV.toC,HV.toCL,pvb,bN,aR]));have hkf:=oX ht hi hj;rw[iM ht hi];omega
    have hwn: ¬(F.length:Int)=(wantN l[i]:Nat):=by simpa using hb
    refine aN ?_;simp (maxSteps:=4000000) only[↓sP,sA,tyS,simprocAttr];repeat refine AI ?_
    refine hK _ _ _ ?_;clear hK K;refine aC fun K hK=>aD (by kernel_rfl) ?_;simp only[sR,simprocAttr];iterate 2
     (refine aE (g:=none) rfl rfl fun K' hK'=>?_;simp only[sH,↓sP,sA,tyS,simprocAttr];(repeat refine AI ?_);refine hK' _ _ ?_;clear hK' K')
    refine aE (g:=none) rfl rfl fun K' hK'=>?_;simp (maxSteps:=4000000) only[sH,↓sP,sA,tyS,simprocAttr];refine eQ [0,1] (ih g (by omega) W' m' (cA l j (i+1)) hkb (by omega) q1 (by omega)) rfl ⟨(by rw[vS];rfl),rfl,trivial⟩ (by simp) (by simp) ⟨rfl,rfl,rfl,rfl⟩ (by simp[dL,HO.men,HV.men,HV.menL,bN]) (by simp[HV.menL,HV.men]) ?_;rintro r os' ⟨W2,m2,rfl,rfl,g2,g3,g4⟩;rw[vR,bY9];repeat refine AI ?_
    refine hK' _ _ ?_;clear hK' K';iterate 5
     (refine aE (g:=none) rfl rfl fun K' hK'=>?_;simp only[sH,↓sP,sA,tyS,simprocAttr];(repeat refine AI ?_);refine hK' _ _ ?_;clear hK' K')
    simp only[sE,↓reduceIte,simprocAttr];repeat refine AI ?_
    refine hK _ _ _ ?_;clear hK K;refine aC fun K hK=>aD (by kernel_rfl) ?_;simp (maxSteps:=4000000) only[↓sP,sA,tyS,simprocAttr];repeat refine AI ?_
    refine hK _ _ _ ?_;clear hK K;refine aJ (b:=dB l (cG S) (cA l j (i+1))) rfl (fun hb=>?_) (fun hb=>?_)
    ·
     have hkv:dB l (cG S) (cA l j (i+1))=true:=hb;have hfl:F.length<wantN l[i]:=by
      have h1:=rK l S g i (W.take m) j;rw[←q4,hgd]at h1;have:F.length≠wantN l[i]:=fun e=>hwn (by rw[e]);omega
     have hsp:gS l S g i (j+1) (W.take m)=(prv l S g (cA l j (i+1)) (W'.take m'),F++[((prv l S g (cA l j (i+1)) (W'.take m')).length:Int)-1]):=by
      rw[eH,mW,←q3,←q4,if_pos ⟨by rw[hgd];exact hfl,hkv⟩]
     rw[if_pos hkv]at g4;have hm2:(prv l S g (cA l j (i+1)) (W'.take m')).length=m2:=by rw[←g4,List.length_take];omega
     rw[hm2]at hsp;refine aD (by kernel_rfl) ?_;simp only[sR,simprocAttr];iterate 5
      (refine aE (g:=none) rfl rfl fun K' hK'=>?_;simp only[sH,↓sP,sA,tyS,simprocAttr,List.length_map,hF2,hF3];(repeat refine AI ?_);refine hK' _ _ ?_;clear hK' K')
     simp only[sE,↓reduceIte,simprocAttr];repeat refine AI ?_
     refine hK _ _ _ ?_;clear hK K;refine aD (by kernel_rfl) ?_;simp (maxSteps:=4000000) only[↓sP,sA,tyS,simprocAttr,IntWalk.i64_in _ (show-9223372036854775808≤(j:Int)+1∧(j:Int)+1≤9223372036854775807 by omega)];refine⟨⟨(j+1,W2,m2,F++[(m2:Int)-1]),hlt,⟨g2,?_,by rw[hsp];exact g4,by rw[hsp]⟩⟩,(aM (by omega) (by simp[aW,fin_at,finA_at,upd_at,HV.men,HV.menL,HV.norm,HV.toC,HV.toCL,pvb,bN,aR,List.map_append,List.length_append,List.length_map,hkv]) (by simp[aX,fob_at,upd_at,none0_at,bI,HO.men,HV.men,HV.menL,HV.norm,HV.toC,HV.toCL,pvb,bN,aR,List.map_append,List.length_append,List.length_map,hkv])),?_⟩
     · show W2.length+(i+1)≤W.length+cA l (j+1) (i+1);rw[cI];omega
     show l[i].c.toNat-(j+1)<l[i].c.toNat-j;omega
    have hkv:dB l (cG S) (cA l j (i+1))=false:=hb;refine aN ?_;simp (maxSteps:=4000000) only[↓sP,sA,tyS,simprocAttr];repeat refine AI ?_
    refine hK _ _ _ ?_;clear hK K;refine aD (by kernel_rfl) ?_;simp (maxSteps:=4000000) only[↓sP,sA,tyS,simprocAttr,IntWalk.i64_in _ (show-9223372036854775808≤(j:Int)+1∧(j:Int)+1≤9223372036854775807 by omega)];refine⟨⟨(j+1,W2,m2,F),hlt,⟨g2,?_,?_,?_⟩⟩,(aM (by omega) (by simp[aW,fin_at,finA_at,upd_at,HV.men,HV.menL,HV.norm,HV.toC,HV.toCL,pvb,bN,aR]) (by simp[aX,fob_at,upd_at,none0_at,bI,HO.men,HV.men,HV.menL,HV.norm,HV.toC,HV.toCL,pvb,bN,aR])),?_⟩
    · show W2.length+(i+1)≤W.length+cA l (j+1) (i+1);rw[cI];omega
    · rw[eH,mW,if_neg (fun hc=>by rw[hkv]at hc;cases hc.2),←q3];rw[hkv]at g4;exact g4
    · rw[eH,mW,if_neg (fun hc=>by rw[hkv]at hc;cases hc.2)];exact q4
    show l[i].c.toNat-(j+1)<l[i].c.toNat-j;omega
   refine bB ?_;simp (maxSteps:=4000000) only[↓sP,sA,tyS,simprocAttr];clear hK K;have hje:j=l[i].c.toNat:=by have:=of_decide_eq_false hb;omega
   subst hje;exact key W' m' F _ _ _ hst (aM (by omega) (by simp[aW,fin_at,finA_at,upd_at,HV.men,HV.menL,HV.norm,HV.toC,HV.toCL,pvb,bN,aR]) (by simp[aX,fob_at,upd_at,none0_at,bI,HO.men,HV.men,HV.menL,HV.norm,HV.toC,HV.toCL,pvb,bN,aR]))
  by_cases hmW:m=W.length
  ·
   refine aD (by kernel_rfl) ?_;simp only[sR,simprocAttr];iterate 6
    (refine aE (g:=none) rfl rfl fun K' hK'=>?_;simp only[sH,↓sP,sA,tyS,simprocAttr,pvb,hmW,bZ,List.length_map];(repeat refine AI ?_);refine hK' _ _ ?_;clear hK' K')
   simp only[sE,↓reduceIte,simprocAttr];exact key _ _ _ (aM (by omega) (by simp[aW,fin_at,finA_at,upd_at,HV.men,HV.menL,HV.norm,HV.toC,HV.toCL,pvb,bN,aR,hmW,bZ]) (by simp[aX,fob_at,upd_at,none0_at,bI,HO.men,HV.men,HV.menL,HV.norm,HV.toC,HV.toCL,pvb,bN,aR,hmW,bZ]))
  have hWp:0<W.length:=by omega
  refine aD (by kernel_rfl) ?_;simp only[sR,simprocAttr];iterate 6
   (refine aE (g:=none) rfl rfl fun K' hK'=>?_;simp only[sH,↓sP,sA,tyS,simprocAttr,pvb,bW hmW,List.length_map,hWp,hm,Nat.zero_le,List.length_take,List.length_drop,Nat.sub_zero,Nat.min_eq_left hm];(repeat refine AI ?_);refine hK' _ _ ?_;clear hK' K')
  simp only[sE,↓reduceIte,simprocAttr];exact key _ _ _ (aM (by omega) (by simp[aW,fin_at,finA_at,upd_at,HV.men,HV.menL,HV.norm,HV.toC,HV.toCL,pvb,bN,aR,bW hmW]) (by simp[aX,fob_at,upd_at,none0_at,bI,HO.men,HV.men,HV.menL,HV.norm,HV.toC,HV.toCL,pvb,bN,aR,bW hmW]))
 refine aC fun K hK=>aD (by kernel_rfl) ?_;simp (maxSteps:=4000000) only[↓sP,sA,tyS,simprocAttr];repeat refine AI ?_
 refine hK _ _ _ ?_;clear hK K;refine aO ?_;refine aC fun K hK=>aD (by kernel_rfl) ?_;simp (maxSteps:=4000000) only[↓sP,sA,tyS,simprocAttr];repeat refine AI ?_
 refine hK _ _ _ ?_;clear hK K;refine aJ (b:=(l[i].k==3)) rfl (fun hb=>?_) (fun hb=>?_)
 ·
  refine aD (by kernel_rfl) ?_;simp (maxSteps:=4000000) only[↓sP,sA,tyS,simprocAttr];have h3:l[i].k=3:=by simpa using hb
  have e1:eA l[i]=3:=by unfold eA;rw[if_neg (by omega),if_pos h3]
  have e2:wantN l[i]=1:=by unfold wantN;rw[if_neg (by omega),if_pos h3]
  exact key _ _ _ (aM (by omega) (by simp[aW,fin_at,finA_at,upd_at,HV.men,HV.menL,HV.norm,HV.toC,HV.toCL,pvb,bN,aR,e1,e2]) (by simp[aX,fob_at,upd_at,none0_at,bI,HO.men,HV.men,HV.menL,HV.norm,HV.toC,HV.toCL,pvb,bN,aR,e1,e2]))
 have hk3:l[i].k≠3:=by simpa using hb
 refine aC fun K hK=>aD (by kernel_rfl) ?_;simp (maxSteps:=4000000) only[↓sP,sA,tyS,simprocAttr];repeat refine AI ?_
 refine hK _ _ _ ?_;clear hK K;refine aJ (b:=(l[i].k==4)) rfl (fun hb=>?_) (fun hb=>?_)
 ·
  refine gY mixed (by kernel_rfl) (by kernel_rfl) (by kernel_rfl) ?_;simp only[sR,simprocAttr];iterate 4
   (refine aE (g:=none) rfl rfl fun K' hK'=>?_;simp only[sH,↓sP,sA,tyS,simprocAttr];(repeat refine AI ?_);refine hK' _ _ ?_;clear hK' K')
  simp only[sE,↓reduceIte,simprocAttr];have h4:l[i].k=4:=by simpa using hb
  have h5:1≤l[i].n:=by omega
  have e1:eA l[i]=4:=by unfold eA;rw[if_neg (by omega),if_neg (by omega)]
  have e2:l[i].n=(wantN l[i]:Nat):=by unfold wantN;rw[if_neg (by omega),if_neg (by omega)];omega
  exact key _ _ _ (aM (by omega) (by simp[aW,fin_at,finA_at,upd_at,HV.men,HV.menL,HV.norm,HV.toC,HV.toCL,pvb,bN,aR,e1,←e2]) (by simp[aX,fob_at,upd_at,none0_at,bI,HO.men,HV.men,HV.menL,HV.norm,HV.toC,HV.toCL,pvb,bN,aR,e1,←e2]))
 refine aN ?_;simp (maxSteps:=4000000) only[↓sP,sA,tyS,simprocAttr];have h4:l[i].k=2:=by simp at hb;omega
 have e1:eA l[i]=2:=by unfold eA;rw[if_pos h4]
 have e2:l[i].c=(wantN l[i]:Nat):=by unfold wantN;rw[if_pos h4];omega
 exact key _ _ _ (aM (by omega) (by simp[aW,fin_at,finA_at,upd_at,HV.men,HV.menL,HV.norm,HV.toC,HV.toCL,pvb,bN,aR,e1,←e2]) (by simp[aX,fob_at,upd_at,none0_at,bI,HO.men,HV.men,HV.menL,HV.norm,HV.toC,HV.toCL,pvb,bN,aR,e1,←e2]))
theorem cS1 (a b n:Nat)(ob:Ob)(x y:HO):iV (sub [a,b] n) ob 0 [x,y]=upd (upd ob a (some (x.ren (sub [a,b] n)))) b (some (y.ren (sub [a,b] n))):=rfl
theorem aR3 (a b n:Nat)(ob:Ob)(l:List Nd)(S:List Sp)(W:List Ln)(m:Nat):iV (sub [a,b] n) ob 0 (osP l S W m)=upd (upd ob a (some (.box 80 (pvb l S (cE b W.length 4 m))))) b (some (.row 41 4 (W.map Ln.cv))):=by
 rw[cS1];simp[HO.ren,HV.ren,HV.renL,pvb,jP,sub]
theorem aR4 (a b n:Nat)(t:TypeId)(l:List Nd)(S:List Sp)(k m:Nat):(HO.box t (pvb l S (cE 1 k 4 m))).ren (sub [a,b] n)= .box t (pvb l S (cE b k 4 m)):=by
 simp[HO.ren,HV.ren,HV.renL,pvb,jP,sub]
theorem cG8 (a b n:Nat)(x y:CV):HV.ren (sub [a,b] n) (.tup [.c x,.c y])= .tup [.c x,.c y]:=rfl
theorem cN5 (a b n:Nat)(x:CV):HV.ren (sub [a,b] n) (.c x)= .c x:=rfl
theorem aX8 {id n m:Nat}{e:TypeId}{L:List CV}(h:ob id=some (.row e 4 L))(hn:n=L.length)(hm:m≤n):(cE id n 4 m).close ob [id]= .c (.slc (L.take m)):=by
 unfold cE;split
 · rename_i e1;rw[HV.close,if_pos (by simp)];simp only[h];rw[if_pos hn,e1,hn,List.take_length]
 rename_i e1;rw[HV.close,if_pos (by simp)];simp only[h];rw[if_pos ⟨hn,by omega,trivial,by omega,hm⟩];rfl
theorem bM1 (id n sz m:Nat):HV.getAt 0 1 false (cE id n sz m)=some (cE id n sz m):=by unfold cE;split<;>rfl
theorem aR5 (l:List Nd)(hn: ∀n∈l,n.q.t.length<2^63)(S:List Sp)(hS:S.length<2^40)(hd: ∀x∈S,x.d.length<2^42):iA Tryz.prog 14 [.slc (l.map Nd.cv),.slc (S.map Sp.cv)] (fun u v=>u= .slc ((eG l S).map Ln.cv)∧v= .bool (eD l (cG S))):=by
 have hTl:(cG S).length<2^63:=by unfold cG;rw[List.length_map];omega
 refine bQ Tryz.func14 rfl (by kernel_rfl) (cR _) (Nat.le_of_ble_eq_true rfl) ?_;refine aC fun K hK=>aD (by kernel_rfl) ?_;simp (maxSteps:=4000000) only[↓sP,sA,tyS,simprocAttr];repeat refine AI ?_
 refine hK _ _ _ ?_;clear hK K;refine aC fun K hK=>?_;refine aC fun K hK=>aD (by kernel_rfl) ?_;simp only[sR,simprocAttr];iterate 2
  (refine aE (g:=none) rfl rfl fun K' hK'=>?_;simp only[sH,↓sP,sA,tyS,simprocAttr,denilL_Sp,denilL_Nd,dM];(repeat refine AI ?_);refine hK' _ _ ?_;clear hK' K')
 refine aE (g:=none) rfl rfl fun K' hK'=>?_;simp (maxSteps:=4000000) only[sH,↓sP,sA,tyS,simprocAttr,denilL_Sp,denilL_Nd,dM];refine cB (args:=[_]) (bY6 S hS) ⟨rfl,rfl,rfl,rfl⟩ ?_;rintro u rfl;repeat refine AI ?_
 refine hK' _ _ ?_;clear hK' K';refine aE (g:=none) rfl rfl fun K' hK'=>?_;simp (maxSteps:=4000000) only[sH,↓sP,sA,tyS,simprocAttr,denilL_Sp,denilL_Nd,dM];refine cB (args:=[_,_]) (cG6 l hn (cG S) hTl) ⟨rfl,rfl,rfl,rfl⟩ ?_;rintro u rfl;repeat refine AI ?_
 refine hK' _ _ ?_;clear hK' K';refine aE (g:=none) rfl rfl fun K' hK'=>?_;simp (maxSteps:=4000000) only[sH,↓sP,sA,tyS,simprocAttr,denilL_Sp,denilL_Nd,dM];repeat refine AI ?_
 refine hK' _ _ ?_;clear hK' K';simp only[sE,↓reduceIte,simprocAttr];repeat refine AI ?_
 refine hK _ _ _ ?_;clear hK K;refine aJ (b:=!eD l (cG S)) rfl (fun hb=>?_) (fun hb=>?_)
 ·
  refine aC fun K hK=>aD (by kernel_rfl) ?_;simp (maxSteps:=4000000) only[↓sP,sA,tyS,simprocAttr];repeat refine AI ?_
  refine hK _ _ _ ?_;clear hK K;refine aH ?_;simp (maxSteps:=4000000) only[bK,Tryz.results14,bH,bJ,bG,↓sP,sA,tyS,simprocAttr];have hev:eD l (cG S)=false:=by simpa using hb
  exact bF [] (.slc []) (.bool false) (by simp[HV.close,HV.closeL,CV.denil,CV.denilL,HV.norm,HV.toC,HV.toCL]) ⟨by rw[eG,hev];rfl,by rw[hev]⟩
 have hev:eD l (cG S)=true:=by simpa using hb
 clear hb;have htb:dN l=true:=by
  unfold eD at hev;rw[Bool.and_eq_true]at hev;exact hev.1
 have hv:dB l (cG S) 0=true:=by
  unfold eD at hev;rw[Bool.and_eq_true]at hev;exact hev.2
 have ht:=eM htb;have hlen:=ht.len;have hne:0<l.length:=ht.ne;refine aN ?_;simp (maxSteps:=4000000) only[↓sP,sA,tyS,simprocAttr];repeat refine AI ?_
 refine hK _ _ _ ?_;clear hK K;refine aC fun K hK=>aD (by kernel_rfl) ?_;simp only[sR,simprocAttr];iterate 2
  (refine aE (g:=none) rfl rfl fun K' hK'=>?_;simp only[sH,↓sP,sA,tyS,simprocAttr,denilL_Sp,denilL_Nd];(repeat refine AI ?_);refine hK' _ _ ?_;clear hK' K')
 refine aE (g:=none) rfl rfl fun K' hK'=>?_;simp (maxSteps:=4000000) only[sH,↓sP,sA,tyS,simprocAttr,denilL_Sp,denilL_Nd];refine cB (args:=[_]) (tY l hn) ⟨rfl,rfl,rfl,rfl⟩ ?_;rintro u rfl;repeat refine AI ?_
 refine hK' _ _ ?_;clear hK' K';iterate 4
  (refine aE (g:=none) rfl rfl fun K' hK'=>?_;simp only[sH,↓sP,sA,tyS,simprocAttr,denilL_Sp,denilL_Nd];(repeat refine AI ?_);refine hK' _ _ ?_;clear hK' K')
 simp only[sE,↓reduceIte,simprocAttr];repeat refine AI ?_
 refine hK _ _ _ ?_;clear hK K;refine dP 48 3 41 4 rfl rfl rfl rfl ?_;refine aC fun K hK=>aD (by kernel_rfl) ?_;simp only[sR,simprocAttr];refine aE (g:=none) rfl rfl fun K' hK'=>?_;simp (maxSteps:=4000000) only[sH,↓sP,sA,tyS,simprocAttr,pvb];repeat refine AI ?_
 refine hK' _ _ ?_;clear hK' K';refine aE (g:=none) rfl rfl fun K' hK'=>?_;simp (maxSteps:=4000000) only[sH,↓sP,sA,tyS,simprocAttr,pvb];refine eQ [48,56] (bZ0 l htb hn S hS hd l.length [] 0 0 hne (by omega) (by simp) (by have:=(eZ ht hne).2.1;simp only[List.length_nil];omega)) rfl ⟨(by rw[aR4];rfl),rfl,trivial⟩ (by simp) (by simp) ⟨rfl,rfl,rfl,rfl⟩ (by simp[dL,HO.men,HV.men,HV.menL,bN]) (by simp[HV.menL,HV.men]) ?_;rintro r os' ⟨W',m',rfl,rfl,g2,g3,g4⟩;rw[aR3,cG8,hv];have ha:=(eZ ht hne).2.1;have g5:W'.take m'=nS l S:=by rw[g4,if_pos hv];rfl
 have g6:m'=(nS l S).length:=by rw[←g5,List.length_take];omega
 simp only[List.length_nil]at g3;repeat refine AI ?_
 refine hK' _ _ ?_;clear hK' K';iterate 5
  (refine aE (g:=none) rfl rfl fun K' hK'=>?_;simp only[sH,↓sP,sA,tyS,simprocAttr,pvb];(repeat refine AI ?_);refine hK' _ _ ?_;clear hK' K')
 simp only[sE,↓reduceIte,simprocAttr];repeat refine AI ?_
 refine hK _ _ _ ?_;clear hK K;refine aC fun K hK=>?_;refine aC fun K hK=>aD (by kernel_rfl) ?_;simp (maxSteps:=4000000) only[↓sP,sA,tyS,simprocAttr];repeat refine AI ?_
 refine hK _ _ _ ?_;clear hK K;refine aJ (b:=false) rfl (fun hb=>?_) (fun hb=>?_)
 · cases hb
 refine aN ?_;simp (maxSteps:=4000000) only[↓sP,sA,tyS,simprocAttr];repeat refine AI ?_
 refine hK _ _ _ ?_;clear hK K;refine aC fun K hK=>cH (by kernel_rfl) ?_;simp only[sR,simprocAttr];iterate 2
  (refine aZ (g:=none) rfl rfl fun K' hK'=>?_;simp only[sH,↓sP,sA,tyS,simprocAttr,pvb,aY,aS,aR];(repeat refine AI ?_);refine hK' _ _ ?_;clear hK' K')
 refine dU (g:=none) 101 rfl rfl fun K' hK'=>?_;simp (maxSteps:=4000000) only[iT,lK,sH,↓sP,sA,tyS,simprocAttr,pvb,aY,aS,aR];repeat refine AI ?_
 refine dX (by first|rfl|simp) ?_;try simp (maxSteps:=4000000) only[sH,↓sP,sA,tyS,simprocAttr,pvb,aY,aS,aR]
 repeat refine AI ?_
 refine hK' _ _ ?_;clear hK' K';refine aZ (g:=none) rfl rfl fun K' hK'=>?_;simp (maxSteps:=4000000) only[sH,↓sP,sA,tyS,simprocAttr,pvb,aY,aS,aR];repeat refine AI ?_
 refine hK' _ _ ?_;clear hK' K';refine aZ (g:=none) rfl rfl fun K' hK'=>?_;simp (maxSteps:=4000000) only[sH,↓sP,sA,tyS,simprocAttr,pvb,aY,aS,aR];refine eQ [48,56] (aI5 l S W' m' ⟨5,0,[],[(m':Int)-1]⟩ g2 (by omega)) rfl ⟨(by rw[aR4];rfl),rfl,trivial⟩ (by simp) (by simp) ⟨rfl,rfl,rfl,rfl⟩ (by simp[dL,HO.men,HV.men,HV.menL,bN]) (by simp[HV.menL,HV.men]) ?_;rintro r os' ⟨rfl,rfl⟩;rw[aR3,cN5];repeat refine AI ?_
 refine hK' _ _ ?_;clear hK' K';simp only[sE,↓reduceIte,simprocAttr];repeat refine AI ?_
 refine hK _ _ _ ?_;clear hK K;refine aC fun K hK=>aD (by kernel_rfl) ?_;simp only[sR,simprocAttr];iterate 6
  (refine aE (g:=none) rfl rfl fun K' hK'=>?_;simp only[sH,↓sP,sA,tyS,simprocAttr,pvb,bM1,yP,aY,aS,aR];(repeat refine AI ?_);refine hK' _ _ ?_;clear hK' K')
 simp only[sE,↓reduceIte,simprocAttr];repeat refine AI ?_
 refine hK _ _ _ ?_;clear hK K;refine aH ?_;simp (maxSteps:=4000000) only[bK,Tryz.results14,bH,bJ,bG,↓sP,sA,tyS,simprocAttr];refine⟨by rw[yP];exact not_false,?_⟩;refine bF [56] (.slc ((eG l S).map Ln.cv)) (.bool true) ?_ ⟨rfl,by rw[hev]⟩;have e1:List.take (m'+1) ((oD W' m' ⟨5,0,[],[(m':Int)-1]⟩).map Ln.cv)=(eG l S).map Ln.cv:=by
  rw[←List.map_take,uA g2,g5,eG,if_pos hev,g6]
 simp only[HV.close,HV.closeL];rw[aX8 (L:=(oD W' m' ⟨5,0,[],[(m':Int)-1]⟩).map Ln.cv) rfl (by simp) (by rw[kI g2];omega),e1];simp[HV.norm,HV.toC,HV.toCL,CV.denil]
end Go.Proofs.YthedbjfipmkpiaaGreatDoor
