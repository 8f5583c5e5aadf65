/- Part of a proof: walks of functions of the program, by contracts, and the rules they use. By an AI agent. -/
import Derived.Shelf.Strings.BuilderK
import Derived.BigCall
import Derived.Test.YthedbjfipmkpiaaGreatDoorHdFm
set_option maxRecDepth 100000
set_option maxHeartbeats 16000000
set_option linter.unusedSimpArgs false
set_option linter.unusedVariables false
set_option linter.defProp false
namespace Go.Proofs.YthedbjfipmkpiaaGreatDoor
open Go Go.Hl Go.Pl
theorem vJ (n:Int)(hn: -9223372036854775808≤n∧n≤9223372036854775807):bM Tryz.prog 52 [.int .i64 n] (fun v=>v= .str (fT n)):=by
 refine FW Tryz.func52 ?_;refine R0 ?_;refine aC fun K J=>?_;refine R0 ?_;refine aJ (b:=n==0) rfl (fun I=>?_) (fun I=>?_)
 · refine R0 ?_;refine aE (RT Tryz.results52 ?_);exact aF [] (.str [48]) rfl (by rw[show n=0 from by simpa using I,aN6])
 refine aG ?_;refine T0 (J _ _ _ ?_);clear J K;have aj:n≠0:=by simpa using I
 clear I;refine RS ?_;iterate 4 refine S0 ?_
 refine RE ?_;refine aC fun K J=>?_;have key: ∀(sg:aK) (u:Nat) fr ob nx,(u<18446744073709551616∧u≠0∧sg.length≤1∧fT n=sg++Lib.decDigits u)→Fits 0 fr ob (fin [(3,.c (.str sg)),(4,.c (.int .u64 u))]) (fob []) 600→K fr ob nx:=by
  rintro sg u fr ob nx ⟨hu,ag,an,ae⟩ hf;refine J _ _ _ (aZ hf ?_);clear hf J K;have ai:=cI4 hu;refine R0 ?_;refine aC fun K J=>?_;refine aL ?_;refine bB (α:={y:Nat×aK//y.1≤u∧(if y.1=0 then []else Lib.decDigits y.1)++y.2=Lib.decDigits u}) (fun y=>(fin [(3,.c (.str sg)),(4,.c (.int .u64 y.1.1)),(5,.c (.str y.1.2))],fob [])) 100 (fun y=>y.1.1) ⟨(u,[]),by simp,by simp[ag]⟩ (fF) ?_;rintro⟨⟨v,s⟩,hv,hs⟩;simp only at hv hs⊢;have ak:s.length≤20:=by
   have:=congrArg List.length hs;rw[A3]at this;omega
  refine aC fun K J=>?_;refine R0 ?_;refine aJ (b:=decide ((0:Int)<v)) rfl (fun I=>?_) (fun I=>?_)
  ·
   have ab:v≠0:=by simp at I;omega
   clear I;have ad:v<18446744073709551616:=by omega
   have aa:((10:Int)=0)↔False:=by simp
   have U:[UInt8.ofNat (48+v%10)].length+s.length≤9223372036854775807:=by simp;omega
   rw[A7 ab,cI3 ab]at hs;refine aG ?_;refine T0 (J _ _ _ ?_);clear J K;refine aL ?_;refine aC fun K J=>aY (by kernel_rfl) ?_;simp only[sR,simprocAttr];have F:=aI @aE3 (aI @tD (aI aa U));iterate 4 refine SGF ?_
   refine cN (g:=none) 124 rfl rfl fun K' af=>?_;simp only[gH,kC,sH,↓sP,sA,tyS,simprocAttr,aE3,tD,aa,U];repeat refine AI ?_
   refine cO (by first|rfl|simp) ?_;try simp only[sH,↓sP,sA,tyS,simprocAttr,aE3,tD,aa,U]
   refine AX (af _ _ ?_);clear af K';iterate 4 refine SGF ?_
   refine T2 (J _ _ _ ?_);clear J K;refine aM (by kernel_rfl) ?_;simp only[↓sP,sA,tyS,simprocAttr,cU4 ad,aa];refine⟨⟨(v/10,[UInt8.ofNat (48+v%10)]++s),by simp only;omega,by simp only;rw[←hs,H5]⟩,fF,?_⟩;show v/10<v;omega
  have ab:v=0:=by simp at I;omega
  clear I;subst ab;rw[B1 rfl,J1]at hs;subst hs;have hle:sg.length+(Lib.decDigits u).length≤9223372036854775807:=by omega
  refine aV (T3 ?_);clear J K;refine AX (J _ _ _ ?_);clear J K;refine RS ?_;have F:=hle;refine AU ?_;refine aE (RT Tryz.results52 ?_);exact aF [] (.str _) rfl (by rw[ae])
 refine R0 ?_;refine aJ (b:=decide (n<0)) rfl (fun I=>?_) (fun I=>?_)
 ·
  have ah:n<0:=by simpa using I
  refine Rg ?_;have F:=aT6 ah hn.1;refine AU ?_;refine T4 ?_;first
   |exact key [45] n.natAbs _ _ _ ⟨by omega,by omega,by simp,bB8 (by simpa using I)⟩ (by rw[←aT6 (by simpa using I) hn.1];exact fF)
   |(have h0:0≤n:=(by simp at I;omega);exact key [] n.natAbs _ _ _ ⟨by omega,by omega,by simp,aE2 h0⟩ (by rw[←bP6 h0 hn.2];exact fF))
 refine aG (T3 ?_);first
  |exact key [45] n.natAbs _ _ _ ⟨by omega,by omega,by simp,bB8 (by simpa using I)⟩ (by rw[←aT6 (by simpa using I) hn.1];exact fF)
  |(have h0:0≤n:=(by simp at I;omega);exact key [] n.natAbs _ _ _ ⟨by omega,by omega,by simp,aE2 h0⟩ (by rw[←bP6 h0 hn.2];exact fF))
theorem cJ9 (n:Int)(hn: -9223372036854775808≤n∧n≤9223372036854775807):qD Tryz.prog 46 tabs [.int .i64 n] (fun v=>v= .str (fT n)):=by
 refine bO (args:=[.c (.int .i64 n)]) Tryz.func46 rfl (by kernel_rfl) (iP tabs [.int .i64 n]) (C7 rfl) ?_;refine R0 ?_;refine aC fun K J=>Rg ?_;refine S0 ?_;refine HS rfl rfl fun U I=>T5 ?_;refine lY (args:=[_,_]) 0 (bY4 n hn) (jD _ 0) (by simp) ⟨rfl,rfl,rfl,rfl⟩ ?_;rintro u rfl;refine AX (I _ _ ?_);clear I U;refine S0 ?_;refine T2 (J _ _ _ ?_);clear J K;refine aE (RT Tryz.results46 ?_);exact oX [] (.str _) rfl (jD _ 0) (by simp) rfl
end Go.Proofs.YthedbjfipmkpiaaGreatDoor
namespace Go.Proofs.YthedbjfipmkpiaaGreatDoor
open Go Go.Hl Go.Pl Go.RowKit Go.Shelf
def bQ3 :Go.Shelf.Ren:=⟨fun|169=>109|n=>n,fun|70=>154|9=>9|0=>0|72=>156|37=>52|127=>179|3=>3|5=>5|n=>n,fun|n=>n⟩
theorem bs0 :Go.Proofs.Lays.n169 Tryz.prog bQ3:={
  mixed:=by kernel_rfl
  f169:=Tryz.func109.trans (congrArg some (by kernel_rfl))
  t0:=Tryz.underlying0
  a0:=Tryz.isAgg0
  z0:=Tryz.sizeOf0
  v0:=Tryz.zeroValue0
  t3:=Tryz.underlying3
  a3:=Tryz.isAgg3
  z3:=Tryz.sizeOf3
  v3:=Tryz.zeroValue3
  t9:=Tryz.underlying9
  a9:=Tryz.isAgg9
  z9:=Tryz.sizeOf9
  v9:=Tryz.zeroValue9
  t37:=Tryz.underlying52
  a37:=Tryz.isAgg52
  z37:=Tryz.sizeOf52
  v37:=Tryz.zeroValue52
  t70:=Tryz.underlying154
  a70:=Tryz.isAgg154
  z70:=Tryz.sizeOf154
  v70:=Tryz.zeroValue154
  t72:=Tryz.underlying156
  a72:=Tryz.isAgg156
  z72:=Tryz.sizeOf156
  v72:=Tryz.zeroValue156
  t127:=Tryz.underlying179
  a127:=Tryz.isAgg179
  z127:=Tryz.sizeOf179
  v127:=Tryz.zeroValue179}
theorem bsx0 :Builder.Extra Tryz.prog bQ3:={
  sizeBuilder:=by kernel_rfl
  liesBuilder:=by kernel_rfl
  t5:=Tryz.underlying5
  a5:=Tryz.isAgg5
  z5:=Tryz.sizeOf5
  v5:=Tryz.zeroValue5
  infoByte:=by kernel_rfl
  cellsByte:=by kernel_rfl
  sizeByte:=by kernel_rfl
  neB5:=by decide}
set_option maxHeartbeats 1000000 in
theorem cV1 (b:Nat)(w:World)(J:w.cell? ⟨b,0,none⟩=some (.pointer (some ⟨b,0,none⟩))):
    Calls Tryz.prog 134 #[.pointer (some ⟨b,0,none⟩)] w fun e w'=>e= .returned (.tuple #[])∧w'=w:=by
  obtain⟨j,I,_⟩:=C9.1 bsx0.sizeBuilder
  go_enter Tryz.func134,Tryz.ntmps134
  go_wp2
  rw[Lib.run_neq_ptr_same w _ Tryz.underlying154 I]
  go_wp2
  go_end0
  exact⟨rfl,rfl⟩
set_option maxHeartbeats 1000000 in
theorem cK0 (b:Nat)(w:World)(h0:w.cell? ⟨b,0,none⟩=some (.pointer none))(I:w.shape? b=some (156,2))(aa:w.frozen? ⟨b,0,none⟩=false):
    Calls Tryz.prog 134 #[.pointer (some ⟨b,0,none⟩)] w fun e w'=>e= .returned (.tuple #[])∧w'=w.setCell ⟨b,0,none⟩ (.pointer (some ⟨b,0,none⟩)):=by
  obtain⟨j,U,J⟩:=C9.1 bsx0.sizeBuilder
  go_enter Tryz.func134,Tryz.ntmps134
  go_wp2
  rw[Lib.run_to_unsafe w ⟨b,0,none⟩ Tryz.underlying154 Tryz.underlying196 U (by rw[J];decide) I (Nat.zero_lt_succ 1)];simp only[Result.andThen];rw[AT]
  go_wp2
  rw[Y3 Tryz.func160 (by kernel_rfl) (by kernel_rfl) (by kernel_rfl) (e:=Extern.AbiNoEscape.same) (by kernel_rfl)];rw[Lib.run_noEscape];simp only[Result.andThen];rw[AT]
  go_wp2
  rw[Lib.run_from_unsafe w ⟨b,0,none⟩ Tryz.underlying196 Tryz.underlying154 U I bsx0.liesBuilder];simp only[Result.andThen];rw[AT]
  go_wp2
  go_end0
  exact⟨rfl,rfl⟩
theorem dO2 (B b:Nat)(bs:List Value)(w:World)(h:Lib.IsBuilderF 156 5 B b bs w):
    Calls Tryz.prog 134 #[.pointer (some ⟨b,0,none⟩)] w fun e w'=>e= .returned (.tuple #[])∧(Lib.BuilderAtF 156 5 B b (.pointer (some ⟨b,0,none⟩)) bs w'∧Below B w w'∧Lib.OthersKept 5 (some b) w w'):=by
  rcases h with h|h
  · refine(cK0 b w h.cell0 h.shape h.frozen0).mono ?_
    rintro e w' ⟨rfl,rfl⟩;exact⟨rfl,h.used _,(Below.refl B w).setCell (p:=⟨b,0,none⟩) h.1 _,(Lib.OthersKept.refl _ _ w).setCell ⟨b,0,none⟩ rfl _⟩
  · refine(cV1 b w h.cell0).mono ?_
    rintro e w' ⟨rfl,rfl⟩;exact⟨rfl,h,Below.refl B _,Lib.OthersKept.refl _ _ _⟩
set_option maxHeartbeats 16000000 in
theorem dK6 (B b:Nat)(bs:List Value)(c:Int)(w:World)(h:Lib.IsBuilderF 156 5 B b bs w)(hlen:bs.length+1≤140737488355328)(ak:B≤w.heap.size):
    Calls Tryz.prog 108 #[.pointer (some ⟨b,0,none⟩),.int .u8 c] w fun e w'=>e= .returned .nilIface∧(Lib.BuilderAtF 156 5 B b (.pointer (some ⟨b,0,none⟩)) (bs++[.int .u8 c]) w'∧Below B w w'∧Lib.OthersKept 5 (some b) w w'):=by
  obtain⟨i0,hi,aj,ai,ah⟩:=info_parts bsx0.infoByte
  go_enter Tryz.func108,Tryz.ntmps108
  go_wp2_with (go_at_call 134;refine(dO2 B b bs _ h).mono ?_)
  rintro e w1 ⟨rfl,h1,aa,ae⟩;obtain⟨hB,v,ab,J,af⟩:=h1;have c0:w1.cell? ⟨b,0,none⟩=some (.pointer (some ⟨b,0,none⟩)):=by rw[Lib.cell_of_heap ab];rfl
  have c1:w1.cell? ⟨b,1,none⟩=some v:=by rw[Lib.cell_of_heap ab];rfl
  go_wp2_with (at_builtin;refine wpList_append_ownF _ rfl _ _ 52 rfl B 5 i0 (.int .u8 0) 1 1 Tryz.underlying52 hi aj ai ah rfl (by decide) _ _ _ rfl (J.alloc _) ⟨w1.heap.size,0,none⟩ 1 1 [.int .u8 c] rfl rfl ?c1 ?c2 ?c3 ?c4 ?c5 ?_)
  case c1=>
    intro j u hj
    match j,hj with
    |0,hj=>simp at hj;subst hj;simp[Addr.add]
  case c2=>intro u hu;simp at hu;subst hu;rfl
  case c3=>unfold maxLen;omega
  case c4=>omega
  case c5=>have:=aa.size;simp;omega
  intro v' w2 U I _;have ag:b<w1.heap.size:=by
    rcases H4 b w1.heap.size with h'|h'
    · exact h'
    · simp[AO h']at ab
  have ad:w2.heap[b]? =some (.cells #[.pointer (some ⟨b,0,none⟩),v] 156 (0,0)):=by
    rw[I.block b (by simp;omega) (fun e=>af e.symm),Lib.alloc_old w1 _ b ag];exact ab
  have d0:w2.cell? ⟨b,0,none⟩=some (.pointer (some ⟨b,0,none⟩)):=by rw[Lib.cell_of_heap ad];rfl
  have d1:w2.cell? ⟨b,1,none⟩=some v:=by rw[Lib.cell_of_heap ad];rfl
  have f1:w2.frozen? ⟨b,1,none⟩=false:=Lib.frozen_of_heap ad 1;obtain⟨g,cap,rfl⟩: ∃g cap,v'= .slice (some ⟨g,0,none⟩) (bs.length+1) cap:=by
    rcases U.2 with⟨_,h0⟩|⟨g,cap,cur,fz,hv,_⟩
    · omega
    · exact⟨g,cap,hv⟩
  go_wp2
  go_ret
  refine⟨rfl,?_,?_,((ae.alloc _).grown I (Lib.ownsRowF_kind (J.alloc _))).setCell ⟨b,1,none⟩ rfl _⟩
  · exact Lib.BuilderAtF.put (T:=156) (e:=5) hB ad (bs':=bs++[.int .u8 c]) (by simpa using U) (by decide)
  · exact((aa.alloc (by have:=aa.size;omega) _).grown I (by have:=aa.size;simp;omega) (fun k hk=>(J.lt k hk).1)).setCell (p:=⟨b,1,none⟩) hB _
set_option maxHeartbeats 16000000 in
theorem cK1 (bs:List UInt8)(h0:0<bs.length)(hl:bs.length<2^40)(b off c:Nat)(w:World)(hc: ∀j,j<bs.length→w.cell? ⟨b,off+j,none⟩=some (.int .u8 (bs.getD j 0).toNat)):
    Calls Tryz.prog 80 #[.slice (some ⟨b,off,none⟩) bs.length c] w fun e w'=>e= .returned (.string ⟨(iV bs).toArray⟩)∧Below w.heap.size w w':=by
  have hb:b<w.heap.size:=by
    rcases H4 b w.heap.size with h'|h'
    · exact h'
    · have:=hc 0 h0
      simp[World.cell?,AO h']at this
  go_enter Tryz.func80,Tryz.ntmps80
  go_wp2
  go_loopw [8] (fun vi wr=> ∃(i:Nat),vi= .int .i64 i∧i≤bs.length∧Lib.IsBuilderF 156 5 w.heap.size w.heap.size (Lib.byteCells (iV (bs.take i))) wr∧Below w.heap.size w wr) (fun vi _=>bs.length-(intOf vi).toNat)
  case atStart=>
    exact⟨0,rfl,by omega,(Lib.IsBuilderF.of (Lib.fresh_isBuilder 156 5 w)),(Below.refl _ w).alloc (E3 _) _⟩
  case round=>
    obtain⟨i,rfl,hi,hI,hB⟩:=hrel;have ab:w.heap.size≤wr.heap.size:=hB.size;by_cases I:i<bs.length
    · have aa:wr.cell? ⟨b,off+i,none⟩=some (.int .u8 (bs[i].toNat)):=by
        have:=hc i I;simp only[World.cell?,hB.block b hb]at this⊢;simpa[I]using this
      have ad:=bs[i].toNat_lt;have af:0≤(bs[i].toNat:Int)/16∧(bs[i].toNat:Int)/16<16:=by omega
      have ae:0≤(bs[i].toNat:Int)%16∧(bs[i].toNat:Int)%16<16:=by omega
      have hlen:(Lib.byteCells (iV (bs.take i))).length+1≤140737488355328:=by rw[Lib.byteCells_length,kZ,E1];omega
      go_wp2_with (go_at_call 108;refine(dK6 w.heap.size w.heap.size _ _ _ hI hlen ab).mono ?_)
      rintro e W1 ⟨rfl,h1,b1,k1⟩;have U:w.heap.size≤W1.heap.size:=by have:=b1.size;omega
      have e1: ∀(l:List UInt8) (x:UInt8),Lib.byteCells l++[Value.int .u8 x.toNat]=Lib.byteCells (l++[x]):=fun l x=>by rw[Lib.byteCells_append];rfl
      rw[e1]at h1;have J: ∀x:UInt8,(Lib.byteCells (iV (bs.take i)++[x])).length+1≤140737488355328:=fun x=>by rw[Lib.byteCells_length,A3,kZ,E1];simp;omega
      go_wp2_with (go_at_call 108;refine(dK6 w.heap.size w.heap.size _ _ _ (Or.inr h1) (J _) U).mono ?_)
      rintro e W2 ⟨rfl,h2,b2,k2⟩;rw[e1]at h2
      go_wp2
      go_roundw
      case rel=>
        refine⟨i+1,by simp,I,Or.inr ?_,(hB.trans b1).trans b2⟩;rw[aM4 I,bJ9,pG,pG];have g1: ∀(n:Nat) (h:n<16),(([48,49,50,51,52,53,54,55,56,57,97,98,99,100,101,102]:List UInt8).getD n 0)=(⟨#[48,49,50,51,52,53,54,55,56,57,97,98,99,100,101,102]⟩:ByteArray)[n]'h:=by decide
        rw[g1 _ (by omega),g1 _ (by omega)];simpa using h2
      case measure=>
        simp[intOf];omega
    · go_wp2_with (go_at_call 109;refine(Any.Builder_String_any_k bs0 bsx0 w.heap.size w.heap.size (iV (bs.take i)) _ hI (by omega)).mono ?_)
      rintro e W1 ⟨rfl,_,b1,_⟩
      go_wp2
      go_ret
      have:i=bs.length:=by omega
      subst this;rw[C6];exact⟨rfl,hB.trans b1⟩
theorem dF4 (bs:List UInt8)(U:0<bs.length)(hl:bs.length<2^40):bM Tryz.prog 80 [.slc (bs.map u8)] (fun v=>v= .str (iV bs)):=by
  have aa:fC Tryz.prog 80=true:=by kernel_rfl
  refine⟨uA aa,fun w ρ X xs hS hA hX=>Does.of aa ?_⟩;simp only[B8,F2,bJ,RepHV]at hA;obtain⟨x,zs,rfl,hx,rfl⟩:=hA;have h1:=RepV.single hx rfl;simp only[RepC,F8,J9]at h1;obtain⟨a,cap,ys,sz,rfl,h2,_,h4,h5,h6⟩:=h1;have ab:ys=bs.map fun b=>Value.int .u8 b.toNat:=by
    have key: ∀(bs:List UInt8) (xs:List Value),RepL w (Owned ρ X) (bs.map u8) xs→xs=bs.map fun b=>Value.int .u8 b.toNat:=by
      intro bs;induction bs with
      |nil=>intro xs h;simpa[RepL]using h
      |cons b bs ih=>
        intro xs h;simp only[B8,RepL,u8,RepC]at h;obtain⟨c1,c2,rfl,rfl,h7⟩:=h;rw[ih c2 h7];rfl
    exact key bs ys h2
  subst ab;simp only[A0];cases a with
  |none=>
    have hz:=h5 rfl;simp only[A0]at h4;omega
  |some ad=>
    have hr:=(h6 ad rfl).1;have I:ad.spot=none:=by
      have:=hr 0 (Value.int .u8 bs[0].toNat) (by simp[U]);simp only[World.cell?]at this;split at this
      · split at this
        · cases this
        · rename_i hh;simpa[Addr.add]using hh
      · cases this
    obtain⟨b,off,spot⟩:=ad;simp only at I;subst I;refine(cK1 bs U hl b off cap w fun j hj=>?_).mono ?_
    · have:=hr j (Value.int .u8 bs[j].toNat) (by simp[hj])
      have e:(⟨b,off,none⟩:Addr).add j=⟨b,off+j,none⟩:=by
        by_cases U:j=0
        · subst U;rfl
        · simp[Addr.add,U]
      rw[e]at this;rw[this];simp[hj]
    · rintro ex w' ⟨rfl,J⟩
      have ae:Stay2 w (Hl.Own ρ) w' (Hl.Own ρ):=⟨fun g hg _=>J.block g hg,fun _ h=> .inl h,J.size,J.os,J.tape,J.output⟩;refine⟨_,_,ρ,_,rfl,⟨_,rfl,rfl,rfl⟩,⟨?_,⟨fun i o ho=>by simp[cZ]at ho,hS.none,hS.apart,hS.xb⟩,by simp[HV.men],fun i o ho=>by simp[cZ]at ho,ae,Moves.refl _ _⟩⟩;refine bQ ?_ rfl rfl;simp[RepC]
end Go.Proofs.YthedbjfipmkpiaaGreatDoor
namespace Go.Proofs.YthedbjfipmkpiaaGreatDoor
open Go Go.Hl Go.Pl
theorem zQ (d:Dig):bM Tryz.prog 45 [dg d] (fun v=>v= .str (kQ d)):=by
 refine FW Tryz.func45 ?_;refine R0 ?_;refine bU8 1 0 rfl rfl ?_;have hle:7+(iV d.1).length≤9223372036854775807:=by rw[kZ,d.2];omega
 refine aC fun K J=>Rg ?_;refine S0 ?_ (e:=fun _ h_=>by simp only[sH,↓sP,sA,tyS,simprocAttr,cF1,jB,d.2,denilL_u8,G2,aT5,hle];exact AX h_);refine HS rfl rfl fun U I=>?_;simp only[sH,↓sP,sA,tyS,simprocAttr,cF1,jB,d.2,denilL_u8,G2,aT5,hle];refine C1 (dF4 d.1 (by rw[d.2];omega) (by rw[d.2];omega)) ?_;rintro u rfl;refine AX (I _ _ ?_);clear I U;iterate 2 refine S0 ?_ (e:=fun _ h_=>by simp only[sH,↓sP,sA,tyS,simprocAttr,cF1,jB,d.2,denilL_u8,G2,aT5,hle];exact AX h_)
 refine T2 (J _ _ _ ?_);clear J K;refine aE (RT Tryz.results45 ?_);exact aF [] (.str _) rfl rfl
theorem cV2 (bs:List UInt8)(hl:bs.length<2^40):bM Tryz.prog 87 [.slc (bs.map u8)] (fun v=>v= .str (iV bs)):=by
 refine FW Tryz.func87 ?_;refine R0 ?_;refine R0 ?_;refine R0 ?_;refine aC fun K I=>?_;refine R0 ?_;refine aL ?_;refine eH 4 0 5 1 rfl rfl rfl rfl ?_;refine bB (α:={i:Nat//i≤bs.length}) (fun i=>(fin [(0,.c (.slc (bs.map u8))),(3,.c (.str [48,49,50,51,52,53,54,55,56,57,97,98,99,100,101,102])),(4,.own 16 (iV (bs.take i.1)).length),(5,.c (.int .i64 i.1))],fob [(16,.row 5 1 ((iV (bs.take i.1)).map u8))])) 100 (fun i=>bs.length-i.1) ⟨0,by omega⟩ (fF) ?_;rintro⟨i,hi⟩;have hle:=kZ (bs.take i);rw[E1]at hle;refine aC fun K I=>?_;refine AU ?_;refine aJ (b:=decide ((i:Int)<bs.length)) rfl (fun hb=>?_) (fun hb=>?_)
 ·
  have J:i<bs.length:=by simpa using hb
  have hs:=aM4 J;have aa:((bs[i].toNat/16:Nat):Int)<16:=by have:=bs[i].toNat_lt;omega
  have ab:((bs[i].toNat%16:Nat):Int)<16:=by omega
  refine aG ?_;refine T0 (I _ _ _ ?_);clear I K;refine aC fun K I=>?_;refine aL ?_;refine DW [(0,[],[]),(1,[],[]),(2,[],[]),(3,[],[]),(4,[],[]),(5,[],[]),(6,[],[]),(7,[],[]),(8,[],[]),(9,[],[]),(10,[],[]),(11,[],[]),(12,[],[]),(13,[],[]),(14,[],[]),(15,[],[]),(16,[],[]),(17,[],[])] [0,0,0,0,12,28,60,126,0,0,0,1536,3584,7680,16128,32766,65535,131071] ?_;iterate 18 refine W0 ?_ (e:=fun _ h_=>by simp only[sH,↓sP,sA,tyS,simprocAttr,A1,A4,J,aW J,u8,A3,A0,dE1,cG9,aa,ab];exact AX h_)
  refine T2 (I _ _ _ ?_);clear I K;refine aM (by kernel_rfl) ?_;refine TQ (cW i) ?_;refine⟨⟨i+1,J⟩,bA (by omega) ?_ ?_,?_⟩
  · rw[hs,bJ9];simp
  · rw[hs,bJ9,C5];exact⟨rfl,by omega,trivial,trivial⟩
  show bs.length-(i+1)<bs.length-i;omega
 refine aV (T3 ?_);clear I K;refine AX (I _ _ _ ?_);clear I K;refine bW [16] (aZ (fr2:=fin [(4,.c (.slc ((iV (bs.take i)).map u8)))]) (ob2:=fob []) (nx2:=200) (bA (by omega) (by simp[denilL_u8]) (by simp)) ?_);have F:=@bX4;refine RF ?_;refine aE (RT Tryz.results87 ?_);have U:i=bs.length:=by simp at hb;omega
 subst U;exact aF [] (.str (iV bs)) (by rw[C6];rfl) rfl
theorem vK (d:Dig):bM Tryz.prog 51 [dg d] (fun v=>v= .str (kQ d)):=by
 refine FW Tryz.func51 ?_;refine R0 ?_;refine R0 ?_;refine aC fun K I=>?_;refine R0 ?_;refine aL ?_;refine eH 3 0 5 1 rfl rfl rfl rfl ?_;refine bB (α:={i:Nat//i≤32}) (fun i=>(fin [(1,.ptr 0 0),(3,.own 16 (d.1.take i.1).length),(4,.c (.int .i64 i.1))],fob [(0,.box 44 (.c (dg d))),(16,.row 5 1 ((d.1.take i.1).map u8))])) 100 (fun i=>32-i.1) ⟨0,by omega⟩ (fF) ?_;rintro⟨i,hi⟩;have ab:d.1.length=32:=d.2;have aa:(d.1.take i).length=i:=by simp;omega
 refine aC fun K I=>?_;refine R0 ?_;refine aJ (b:=decide ((i:Int)<32)) rfl (fun hb=>?_) (fun hb=>?_)
 ·
  have J:i<32:=by simp at hb;omega
  have U:(i:Int)<32:=by omega
  have ae:i<d.1.length:=by rw[d.2];exact J
  refine aG ?_;refine T0 (I _ _ _ ?_);clear I K;refine aC fun K I=>?_;refine aL ?_;refine Rg ?_;iterate 7 refine S0 ?_ (e:=fun _ h_=>by simp only[sH,↓sP,sA,tyS,simprocAttr,A1,U,bK4 J,P4,u8,aa,A3,A0];exact AX h_)
  refine T2 (I _ _ _ ?_);clear I K;refine aM (by kernel_rfl) ?_;refine TQ (cW i) ?_;refine⟨⟨i+1,J⟩,bA (by omega) ?_ ?_,?_⟩
  · simp[ab];omega
  · simp only[A5 ae,C5];exact⟨rfl,by omega,trivial,rfl,by omega,trivial,trivial⟩
  show 32-(i+1)<32-i;omega
 refine aV (T3 ?_);clear I K;refine AX (I _ _ _ ?_);clear I K;have ad:i=32:=by simp at hb;omega
 subst ad;rw[C8 (by omega)];have hle:7+(iV d.1).length≤9223372036854775807:=by rw[kZ,d.2];omega
 refine bW [16] (aZ (fr2:=fin [(3,.c (.slc (d.1.map u8)))]) (ob2:=fob []) (nx2:=200) (bA (by omega) (by simp[denilL_u8]) (by simp)) ?_);refine RS ?_;have F:=aI hle @denilL_u8;refine SF ?_;refine SCF (cV2 d.1 (by rw[d.2];omega)) ?_;refine AU ?_;refine aE (RT Tryz.results51 ?_);exact aF [] (.str _) rfl rfl
theorem kR (n:Int):bM Tryz.prog 49 [.int .i64 n] (fun v=>v= .bool (inN n)):=by
 refine FW Tryz.func49 ?_;refine AU ?_;refine aH 4 rfl (fun I=>?_) (fun I=>?_)
 · have F:=I;refine AU ?_;refine aE (RT Tryz.results49 ?_);refine aF [] (.bool _) rfl ?_;simp[I,inN,zG];all_goals first|rfl|simp_all
 have F:=I;refine AU ?_;refine aE (RT Tryz.results49 ?_);refine aF [] (.bool _) rfl ?_;simp[I,inN,zG];all_goals first|rfl|simp_all
theorem cV3 (s:aK)(hl:s.length<2^63):bM Tryz.prog 154 [.str s] (fun v=>v= .bool (fL s)):=by
 refine FW Tryz.func154 ?_;refine R0 ?_;refine aC fun K hK=>?_;refine AU ?_;refine aH 7 rfl (fun aa=>?_) (fun aa=>?_)
 · have F:=aa;refine AU ?_;refine CT rfl ?_;refine R0 ?_;refine aE (RT Tryz.results154 ?_);exact aF [] (.bool false) rfl (by rw[aN4 (by simp at aa;omega)])
 have F:=aa;refine AU ?_;refine aJ (b:=_) rfl (fun hb=>?_) (fun hb=>?_)
 · refine R0 ?_;refine aE (RT Tryz.results154 ?_);exact aF [] (.bool false) rfl (by rw[aN4 (by simp at hb;omega)])
 refine aG ?_;refine T0 (hK _ _ _ ?_);clear hK K;refine aC fun K hK=>?_;refine R0 ?_;refine aL ?_;have hlen:1≤s.length∧s.length≤64:=by simp at aa hb;omega
 refine bB (α:={i:Nat//i≤s.length∧ ∀j (_:j<i) (h:j<s.length),okc j s[j]=true}) (fun i=>(fin [(0,.c (.str s)),(3,.c (.int .i64 i.1))],fob [])) 100 (fun i=>s.length-i.1) ⟨0,by omega,fun j h=>by omega⟩ (fF) ?_;clear hb;rintro⟨i,hi,h0⟩;refine aC fun K hK=>?_;refine AU ?_;refine aJ (b:=decide ((i:Int)<s.length)) rfl (fun hb=>?_) (fun hb=>?_)
 ·
  have ah:i<s.length:=by simpa using hb
  have hgd:s.getD i 0=s[i]:=by simp[ah]
  refine aG ?_;refine T0 (hK _ _ _ ?_);clear hK K;refine aC fun K hK=>?_;refine aL ?_;refine RS ?_;iterate 4 refine S0 ?_ (e:=fun _ h_=>by simp only[sH,↓sP,sA,tyS,simprocAttr,A1,A4,ah,hgd,aa];exact AX h_)
  refine RE ?_;refine aC fun K hK=>?_;refine aC fun K hK=>?_;have key: ∀(b:Bool) fr ob nx,b=okc i s[i]→Fits 0 fr ob (fin [(0,.c (.str s)),(3,.c (.int .i64 i)),(51,.c (.bool b))]) (fob []) 600→K fr ob nx:=by
   rintro b fr ob nx rfl hf;refine hK _ _ _ (aZ hf ?_);clear hf hK K;refine aJ (b:=okc i s[i]) rfl (fun hb=>?_) (fun hb=>?_)
   · refine aV (T3 ?_);clear hK K;refine AX (hK _ _ _ ?_);clear hK K;refine aM (by kernel_rfl) ?_;refine TQ (cW i) ?_;refine⟨⟨i+1,ah,bX1 ah hb h0⟩,fF,?_⟩;show s.length-(i+1)<s.length-i;omega
   refine aG ?_;refine T0 (hK _ _ _ ?_);clear hK K;refine R0 ?_;refine aE (RT Tryz.results154 ?_);exact aF [] (.bool false) rfl (by rw[aN5 ah hb])
  refine Rg ?_;refine AU ?_;refine aH 23 rfl (fun I=>?_) (fun I=>?_)
  ·
   have F:=aI aa I;refine AU ?_;refine aH 26 rfl (fun ad=>?_) (fun ad=>?_)
   · have F:=aI aa (aI I ad);refine AU ?_;refine T4 ?_;exact key true _ _ _ (by simp only[okc,alZ,puZ,aa,I,ad,D8,D7,B6,B9,F3,D9,D5,E4,E2,F4]) (fF)
   have F:=aI aa (aI I ad);refine AU ?_;refine aH 30 rfl (fun J=>?_) (fun J=>?_)
   ·
    have F:=aI aa (aI I (aI ad J));refine AU ?_;refine aH 33 rfl (fun ae=>?_) (fun ae=>?_)
    · have F:=aI aa (aI I (aI ad (aI J ae)));refine AU ?_;refine T4 ?_;exact key true _ _ _ (by simp only[okc,alZ,puZ,aa,I,ad,J,ae,D8,D7,B6,B9,F3,D9,D5,E4,E2,F4]) (fF)
    have F:=aI aa (aI I (aI ad (aI J ae)));refine AU ?_;refine aH 38 rfl (fun U=>?_) (fun U=>?_)
    ·
     have F:=aI aa (aI I (aI ad (aI J (aI ae U))));refine AU ?_;refine aH 41 rfl (fun ab=>?_) (fun ab=>?_)
     · have F:=aI aa (aI I (aI ad (aI J (aI ae (aI U ab)))));refine AU ?_;refine T4 ?_;exact key true _ _ _ (by simp only[okc,alZ,puZ,aa,I,ad,J,ae,U,ab,D8,D7,B6,B9,F3,D9,D5,E4,E2,F4]) (fF)
     have F:=aI aa (aI I (aI ad (aI J (aI ae (aI U ab)))));refine AU ?_;refine aH 44 rfl (fun af=>?_) (fun af=>?_)
     · have F:=aI aa (aI I (aI ad (aI J (aI ae (aI U (aI ab af))))));refine AU ?_;refine T4 ?_;exact key true _ _ _ (by simp only[okc,alZ,puZ,aa,I,ad,J,ae,U,ab,af,D8,D7,B6,B9,F3,D9,D5,E4,E2,F4]) (fF)
     have F:=aI aa (aI I (aI ad (aI J (aI ae (aI U (aI ab af))))));refine AU ?_;refine aH 48 rfl (fun ag=>?_) (fun ag=>?_)
     · simp only[ag];refine T4 ?_;exact key true _ _ _ (by simp only[okc,alZ,puZ,aa,I,ad,J,ae,U,ab,af,ag,D8,D7,B6,B9,F3,D9,D5,E4,E2,F4]) (fF)
     simp only[ag];refine T4 ?_;exact key false _ _ _ (by simp only[okc,alZ,puZ,aa,I,ad,J,ae,U,ab,af,ag,D8,D7,B6,B9,F3,D9,D5,E4,E2,F4]) (fF)
    have F:=aI aa (aI I (aI ad (aI J (aI ae U))));refine AU ?_;refine T4 ?_;exact key false _ _ _ (by simp only[okc,alZ,puZ,aa,I,ad,J,ae,U,D8,D7,B6,B9,F3,D9,D5,E4,E2,F4]) (fF)
   have F:=aI aa (aI I (aI ad J));refine AU ?_;refine aH 38 rfl (fun U=>?_) (fun U=>?_)
   ·
    have F:=aI aa (aI I (aI ad (aI J U)));refine AU ?_;refine aH 41 rfl (fun ab=>?_) (fun ab=>?_)
    · have F:=aI aa (aI I (aI ad (aI J (aI U ab))));refine AU ?_;refine T4 ?_;exact key true _ _ _ (by simp only[okc,alZ,puZ,aa,I,ad,J,U,ab,D8,D7,B6,B9,F3,D9,D5,E4,E2,F4]) (fF)
    have F:=aI aa (aI I (aI ad (aI J (aI U ab))));refine AU ?_;refine aH 44 rfl (fun af=>?_) (fun af=>?_)
    · have F:=aI aa (aI I (aI ad (aI J (aI U (aI ab af)))));refine AU ?_;refine T4 ?_;exact key true _ _ _ (by simp only[okc,alZ,puZ,aa,I,ad,J,U,ab,af,D8,D7,B6,B9,F3,D9,D5,E4,E2,F4]) (fF)
    have F:=aI aa (aI I (aI ad (aI J (aI U (aI ab af)))));refine AU ?_;refine aH 48 rfl (fun ag=>?_) (fun ag=>?_)
    · simp only[ag];refine T4 ?_;exact key true _ _ _ (by simp only[okc,alZ,puZ,aa,I,ad,J,U,ab,af,ag,D8,D7,B6,B9,F3,D9,D5,E4,E2,F4]) (fF)
    simp only[ag];refine T4 ?_;exact key false _ _ _ (by simp only[okc,alZ,puZ,aa,I,ad,J,U,ab,af,ag,D8,D7,B6,B9,F3,D9,D5,E4,E2,F4]) (fF)
   have F:=aI aa (aI I (aI ad (aI J U)));refine AU ?_;refine T4 ?_;exact key false _ _ _ (by simp only[okc,alZ,puZ,aa,I,ad,J,U,D8,D7,B6,B9,F3,D9,D5,E4,E2,F4]) (fF)
  have F:=aI aa I;refine AU ?_;refine aH 30 rfl (fun J=>?_) (fun J=>?_)
  ·
   have F:=aI aa (aI I J);refine AU ?_;refine aH 33 rfl (fun ae=>?_) (fun ae=>?_)
   · have F:=aI aa (aI I (aI J ae));refine AU ?_;refine T4 ?_;exact key true _ _ _ (by simp only[okc,alZ,puZ,aa,I,J,ae,D8,D7,B6,B9,F3,D9,D5,E4,E2,F4]) (fF)
   have F:=aI aa (aI I (aI J ae));refine AU ?_;refine aH 38 rfl (fun U=>?_) (fun U=>?_)
   ·
    have F:=aI aa (aI I (aI J (aI ae U)));refine AU ?_;refine aH 41 rfl (fun ab=>?_) (fun ab=>?_)
    · have F:=aI aa (aI I (aI J (aI ae (aI U ab))));refine AU ?_;refine T4 ?_;exact key true _ _ _ (by simp only[okc,alZ,puZ,aa,I,J,ae,U,ab,D8,D7,B6,B9,F3,D9,D5,E4,E2,F4]) (fF)
    have F:=aI aa (aI I (aI J (aI ae (aI U ab))));refine AU ?_;refine aH 44 rfl (fun af=>?_) (fun af=>?_)
    · have F:=aI aa (aI I (aI J (aI ae (aI U (aI ab af)))));refine AU ?_;refine T4 ?_;exact key true _ _ _ (by simp only[okc,alZ,puZ,aa,I,J,ae,U,ab,af,D8,D7,B6,B9,F3,D9,D5,E4,E2,F4]) (fF)
    have F:=aI aa (aI I (aI J (aI ae (aI U (aI ab af)))));refine AU ?_;refine aH 48 rfl (fun ag=>?_) (fun ag=>?_)
    · simp only[ag];refine T4 ?_;exact key true _ _ _ (by simp only[okc,alZ,puZ,aa,I,J,ae,U,ab,af,ag,D8,D7,B6,B9,F3,D9,D5,E4,E2,F4]) (fF)
    simp only[ag];refine T4 ?_;exact key false _ _ _ (by simp only[okc,alZ,puZ,aa,I,J,ae,U,ab,af,ag,D8,D7,B6,B9,F3,D9,D5,E4,E2,F4]) (fF)
   have F:=aI aa (aI I (aI J (aI ae U)));refine AU ?_;refine T4 ?_;exact key false _ _ _ (by simp only[okc,alZ,puZ,aa,I,J,ae,U,D8,D7,B6,B9,F3,D9,D5,E4,E2,F4]) (fF)
  have F:=aI aa (aI I J);refine AU ?_;refine aH 38 rfl (fun U=>?_) (fun U=>?_)
  ·
   have F:=aI aa (aI I (aI J U));refine AU ?_;refine aH 41 rfl (fun ab=>?_) (fun ab=>?_)
   · have F:=aI aa (aI I (aI J (aI U ab)));refine AU ?_;refine T4 ?_;exact key true _ _ _ (by simp only[okc,alZ,puZ,aa,I,J,U,ab,D8,D7,B6,B9,F3,D9,D5,E4,E2,F4]) (fF)
   have F:=aI aa (aI I (aI J (aI U ab)));refine AU ?_;refine aH 44 rfl (fun af=>?_) (fun af=>?_)
   · have F:=aI aa (aI I (aI J (aI U (aI ab af))));refine AU ?_;refine T4 ?_;exact key true _ _ _ (by simp only[okc,alZ,puZ,aa,I,J,U,ab,af,D8,D7,B6,B9,F3,D9,D5,E4,E2,F4]) (fF)
   have F:=aI aa (aI I (aI J (aI U (aI ab af))));refine AU ?_;refine aH 48 rfl (fun ag=>?_) (fun ag=>?_)
   · simp only[ag];refine T4 ?_;exact key true _ _ _ (by simp only[okc,alZ,puZ,aa,I,J,U,ab,af,ag,D8,D7,B6,B9,F3,D9,D5,E4,E2,F4]) (fF)
   simp only[ag];refine T4 ?_;exact key false _ _ _ (by simp only[okc,alZ,puZ,aa,I,J,U,ab,af,ag,D8,D7,B6,B9,F3,D9,D5,E4,E2,F4]) (fF)
  have F:=aI aa (aI I (aI J U));refine AU ?_;refine T4 ?_;exact key false _ _ _ (by simp only[okc,alZ,puZ,aa,I,J,U,D8,D7,B6,B9,F3,D9,D5,E4,E2,F4]) (fF)
 refine aV (T3 ?_);clear hK K;refine AX (hK _ _ _ ?_);clear hK K;refine R0 ?_;refine aE (RT Tryz.results154 ?_);have ai:i=s.length:=by simp at hb;omega
 exact aF [] (.bool true) rfl (by rw[nZ.2 ⟨hlen,fun j h=>h0 j (by omega) h⟩])
theorem cK2 (s:aK)(hl:s.length<2^63):bM Tryz.prog 159 [.str s] (fun v=>v= .bool (fL s)):=by
 refine FW Tryz.func159 ?_;refine R0 ?_;refine aC fun K hK=>?_;refine aC fun K hK=>?_;have key: ∀(b:Bool) fr ob nx,b=iQ s→Fits 0 fr ob (fin [(0,.c (.str s)),(26,.c (.bool b))]) (fob []) 600→K fr ob nx:=by
  rintro b fr ob nx rfl hf;refine hK _ _ _ (aZ hf ?_);clear hf hK K;refine aJ (b:=iQ s) rfl (fun hb=>?_) (fun hb=>?_)
  · refine R0 ?_;refine aE (RT Tryz.results159 ?_);exact aF [] (.bool false) rfl (by rw[bK5 hb])
  refine aG ?_;refine T0 (hK _ _ _ ?_);clear hK K;refine aC fun K hK=>?_;refine R0 ?_;refine aL ?_;have an:=hb;refine bB (α:={i:Nat//i≤s.length∧ ∀j (_:j<i) (h:j<s.length),(alZ s[j]||puZ s[j])=true}) (fun i=>(fin [(0,.c (.str s)),(3,.c (.int .i64 i.1))],fob [])) 100 (fun i=>s.length-i.1) ⟨0,by omega,fun j h=>by omega⟩ (fF) ?_;clear hb;rintro⟨i,hi,h0⟩;refine aC fun K hK=>?_;refine AU ?_;refine aJ (b:=decide ((i:Int)<s.length)) rfl (fun hb=>?_) (fun hb=>?_)
  ·
   have ak:i<s.length:=by simpa using hb
   have hgd:s.getD i 0=s[i]:=by simp[ak]
   refine aG ?_;refine T0 (hK _ _ _ ?_);clear hK K;refine aC fun K hK=>?_;refine aL ?_;refine RS ?_;iterate 4 refine S0 ?_ (e:=fun _ h_=>by simp only[sH,↓sP,sA,tyS,simprocAttr,A1,A4,ak,hgd];exact AX h_)
   refine RE ?_;refine aC fun K hK=>?_;have key: ∀(b:Bool) fr ob nx,b=(!(alZ s[i]||puZ s[i]))→Fits 0 fr ob (fin [(0,.c (.str s)),(3,.c (.int .i64 i)),(62,.c (.bool b))]) (fob []) 600→K fr ob nx:=by
    rintro b fr ob nx rfl hf;refine hK _ _ _ (aZ hf ?_);clear hf hK K;refine aJ (b:=!(alZ s[i]||puZ s[i])) rfl (fun hb=>?_) (fun hb=>?_)
    · refine R0 ?_;refine aE (RT Tryz.results159 ?_);exact aF [] (.bool false) rfl (by rw[bK6 ak (by simpa using hb)])
    refine aG ?_;refine T0 (hK _ _ _ ?_);clear hK K;refine aM (by kernel_rfl) ?_;refine TQ (cW i) ?_;refine⟨⟨i+1,ak,fun j hj h'=>?_⟩,fF,?_⟩
    ·
     rcases H4 j i with h1|h1
     · exact h0 j h1 h'
     have:j=i:=by omega
     subst this;rw[CE]at hb;exact hb
    show s.length-(i+1)<s.length-i;omega
   refine Rg ?_;refine AU ?_;refine aH 37 rfl (fun I=>?_) (fun I=>?_)
   ·
    have F:=I;refine AU ?_;refine aH 40 rfl (fun ad=>?_) (fun ad=>?_)
    · have F:=aI I ad;refine AU ?_;refine T4 ?_;exact key false _ _ _ (by simp only[alZ,puZ,I,ad,D8,D7,B6,B9,F3,D9,D5,E4,E2,F4,F1,F7]) (fF)
    have F:=aI I ad;refine AU ?_;refine aH 44 rfl (fun J=>?_) (fun J=>?_)
    ·
     have F:=aI I (aI ad J);refine AU ?_;refine aH 47 rfl (fun ab=>?_) (fun ab=>?_)
     · have F:=aI I (aI ad (aI J ab));refine AU ?_;refine T4 ?_;exact key false _ _ _ (by simp only[alZ,puZ,I,ad,J,ab,D8,D7,B6,B9,F3,D9,D5,E4,E2,F4,F1,F7]) (fF)
     have F:=aI I (aI ad (aI J ab));refine AU ?_;refine aH 52 rfl (fun U=>?_) (fun U=>?_)
     · have F:=aI I (aI ad (aI J (aI ab U)));refine AU ?_;refine T4 ?_;exact key false _ _ _ (by simp only[alZ,puZ,I,ad,J,ab,U,D8,D7,B6,B9,F3,D9,D5,E4,E2,F4,F1,F7]) (fF)
     have F:=aI I (aI ad (aI J (aI ab U)));refine AU ?_;refine aH 56 rfl (fun aa=>?_) (fun aa=>?_)
     · have F:=aI I (aI ad (aI J (aI ab (aI U aa))));refine AU ?_;refine T4 ?_;exact key false _ _ _ (by simp only[alZ,puZ,I,ad,J,ab,U,aa,D8,D7,B6,B9,F3,D9,D5,E4,E2,F4,F1,F7]) (fF)
     have F:=aI I (aI ad (aI J (aI ab (aI U aa))));refine AU ?_;refine aH 60 rfl (fun ae=>?_) (fun ae=>?_)
     · simp only[ae];refine T4 ?_;exact key false _ _ _ (by simp only[alZ,puZ,I,ad,J,ab,U,aa,ae,D8,D7,B6,B9,F3,D9,D5,E4,E2,F4,F1,F7]) (fF)
     simp only[ae];refine T4 ?_;exact key true _ _ _ (by simp only[alZ,puZ,I,ad,J,ab,U,aa,ae,D8,D7,B6,B9,F3,D9,D5,E4,E2,F4,F1,F7]) (fF)
    have F:=aI I (aI ad J);refine AU ?_;refine aH 52 rfl (fun U=>?_) (fun U=>?_)
    · have F:=aI I (aI ad (aI J U));refine AU ?_;refine T4 ?_;exact key false _ _ _ (by simp only[alZ,puZ,I,ad,J,U,D8,D7,B6,B9,F3,D9,D5,E4,E2,F4,F1,F7]) (fF)
    have F:=aI I (aI ad (aI J U));refine AU ?_;refine aH 56 rfl (fun aa=>?_) (fun aa=>?_)
    · have F:=aI I (aI ad (aI J (aI U aa)));refine AU ?_;refine T4 ?_;exact key false _ _ _ (by simp only[alZ,puZ,I,ad,J,U,aa,D8,D7,B6,B9,F3,D9,D5,E4,E2,F4,F1,F7]) (fF)
    have F:=aI I (aI ad (aI J (aI U aa)));refine AU ?_;refine aH 60 rfl (fun ae=>?_) (fun ae=>?_)
    · simp only[ae];refine T4 ?_;exact key false _ _ _ (by simp only[alZ,puZ,I,ad,J,U,aa,ae,D8,D7,B6,B9,F3,D9,D5,E4,E2,F4,F1,F7]) (fF)
    simp only[ae];refine T4 ?_;exact key true _ _ _ (by simp only[alZ,puZ,I,ad,J,U,aa,ae,D8,D7,B6,B9,F3,D9,D5,E4,E2,F4,F1,F7]) (fF)
   have F:=I;refine AU ?_;refine aH 44 rfl (fun J=>?_) (fun J=>?_)
   ·
    have F:=aI I J;refine AU ?_;refine aH 47 rfl (fun ab=>?_) (fun ab=>?_)
    · have F:=aI I (aI J ab);refine AU ?_;refine T4 ?_;exact key false _ _ _ (by simp only[alZ,puZ,I,J,ab,D8,D7,B6,B9,F3,D9,D5,E4,E2,F4,F1,F7]) (fF)
    have F:=aI I (aI J ab);refine AU ?_;refine aH 52 rfl (fun U=>?_) (fun U=>?_)
    · have F:=aI I (aI J (aI ab U));refine AU ?_;refine T4 ?_;exact key false _ _ _ (by simp only[alZ,puZ,I,J,ab,U,D8,D7,B6,B9,F3,D9,D5,E4,E2,F4,F1,F7]) (fF)
    have F:=aI I (aI J (aI ab U));refine AU ?_;refine aH 56 rfl (fun aa=>?_) (fun aa=>?_)
    · have F:=aI I (aI J (aI ab (aI U aa)));refine AU ?_;refine T4 ?_;exact key false _ _ _ (by simp only[alZ,puZ,I,J,ab,U,aa,D8,D7,B6,B9,F3,D9,D5,E4,E2,F4,F1,F7]) (fF)
    have F:=aI I (aI J (aI ab (aI U aa)));refine AU ?_;refine aH 60 rfl (fun ae=>?_) (fun ae=>?_)
    · simp only[ae];refine T4 ?_;exact key false _ _ _ (by simp only[alZ,puZ,I,J,ab,U,aa,ae,D8,D7,B6,B9,F3,D9,D5,E4,E2,F4,F1,F7]) (fF)
    simp only[ae];refine T4 ?_;exact key true _ _ _ (by simp only[alZ,puZ,I,J,ab,U,aa,ae,D8,D7,B6,B9,F3,D9,D5,E4,E2,F4,F1,F7]) (fF)
   have F:=aI I J;refine AU ?_;refine aH 52 rfl (fun U=>?_) (fun U=>?_)
   · have F:=aI I (aI J U);refine AU ?_;refine T4 ?_;exact key false _ _ _ (by simp only[alZ,puZ,I,J,U,D8,D7,B6,B9,F3,D9,D5,E4,E2,F4,F1,F7]) (fF)
   have F:=aI I (aI J U);refine AU ?_;refine aH 56 rfl (fun aa=>?_) (fun aa=>?_)
   · have F:=aI I (aI J (aI U aa));refine AU ?_;refine T4 ?_;exact key false _ _ _ (by simp only[alZ,puZ,I,J,U,aa,D8,D7,B6,B9,F3,D9,D5,E4,E2,F4,F1,F7]) (fF)
   have F:=aI I (aI J (aI U aa));refine AU ?_;refine aH 60 rfl (fun ae=>?_) (fun ae=>?_)
   · simp only[ae];refine T4 ?_;exact key false _ _ _ (by simp only[alZ,puZ,I,J,U,aa,ae,D8,D7,B6,B9,F3,D9,D5,E4,E2,F4,F1,F7]) (fF)
   simp only[ae];refine T4 ?_;exact key true _ _ _ (by simp only[alZ,puZ,I,J,U,aa,ae,D8,D7,B6,B9,F3,D9,D5,E4,E2,F4,F1,F7]) (fF)
  refine aV (T3 ?_);clear hK K;refine AX (hK _ _ _ ?_);clear hK K;refine R0 ?_;refine aE (RT Tryz.results159 ?_);have ao:i=s.length:=by simp at hb;omega
  exact aF [] (.bool true) rfl (by rw[bX2 an fun j h=>h0 j (by omega) h])
 refine Rg ?_;have F:=@oZ;refine AU ?_;refine aH 6 rfl (fun ag=>?_) (fun ag=>?_)
 · have F:=aI @oZ ag;refine AU ?_;refine T4 ?_;exact key true _ _ _ (by simp only[iQ,gb,ag,D8,D7,B6,B9,F3,D9,D5,E4,E2,F4]) (fF)
 have F:=aI @oZ ag;refine AU ?_;refine aH 10 rfl (fun af=>?_) (fun af=>?_)
 · have F:=aI @oZ (aI ag af);refine AU ?_;refine T4 ?_;exact key true _ _ _ (by simp only[iQ,gb,ag,af,D8,D7,B6,B9,F3,D9,D5,E4,E2,F4]) (fF)
 have F:=aI @oZ (aI ag af);refine AU ?_;refine aH 15 rfl (fun ah=>?_) (fun ah=>?_)
 · have F:=aI @oZ (aI ag (aI af ah));refine AU ?_;refine T4 ?_;exact key true _ _ _ (by simp only[iQ,gb,ag,af,ah,D8,D7,B6,B9,F3,D9,D5,E4,E2,F4]) (fF)
 have F:=aI @oZ (aI ag (aI af ah));refine AU ?_;refine aH 20 rfl (fun ai=>?_) (fun ai=>?_)
 · have F:=aI @oZ (aI ag (aI af (aI ah ai)));refine AU ?_;refine T4 ?_;exact key true _ _ _ (by simp only[iQ,gb,ag,af,ah,ai,D8,D7,B6,B9,F3,D9,D5,E4,E2,F4]) (fF)
 have F:=aI @oZ (aI ag (aI af (aI ah ai)));refine AU ?_;refine aH 25 rfl (fun aj=>?_) (fun aj=>?_)
 · simp only[aj];refine T4 ?_;exact key true _ _ _ (by simp only[iQ,gb,ag,af,ah,ai,aj,D8,D7,B6,B9,F3,D9,D5,E4,E2,F4]) (fF)
 simp only[aj];refine T4 ?_;exact key false _ _ _ (by simp only[iQ,gb,ag,af,ah,ai,aj,D8,D7,B6,B9,F3,D9,D5,E4,E2,F4]) (fF)
theorem vL (c:UInt8):bM Tryz.prog 111 [.int .u8 c.toNat] (fun v=>v= .bool (cX c)):=by
 refine FW Tryz.func111 ?_;refine AU ?_;refine aH 4 rfl (fun I=>?_) (fun I=>?_)
 ·
  have F:=I;refine AU ?_;refine aH 7 rfl (fun J=>?_) (fun J=>?_)
  · have F:=aI I J;refine AU ?_;refine aE (RT Tryz.results111 ?_);refine aF [] (.bool _) rfl ?_;simp[I,J,cX];all_goals first|rfl|simp_all|omega
  have F:=aI I J;refine AU ?_;refine aE (RT Tryz.results111 ?_);refine aF [] (.bool _) rfl ?_;simp[I,J,cX];all_goals first|rfl|simp_all|omega
 have F:=I;refine AU ?_;refine aE (RT Tryz.results111 ?_);refine aF [] (.bool _) rfl ?_;simp[I,cX];all_goals first|rfl|simp_all|omega
theorem xM (c:UInt8):bM Tryz.prog 101 [.int .u8 c.toNat] (fun v=>v= .bool (cX c)):=by
 refine FW Tryz.func101 ?_;refine AU ?_;refine aH 4 rfl (fun I=>?_) (fun I=>?_)
 ·
  have F:=I;refine AU ?_;refine aH 7 rfl (fun J=>?_) (fun J=>?_)
  · have F:=aI I J;refine AU ?_;refine aE (RT Tryz.results101 ?_);refine aF [] (.bool _) rfl ?_;simp[I,J,cX];all_goals first|rfl|simp_all|omega
  have F:=aI I J;refine AU ?_;refine aE (RT Tryz.results101 ?_);refine aF [] (.bool _) rfl ?_;simp[I,J,cX];all_goals first|rfl|simp_all|omega
 have F:=I;refine AU ?_;refine aE (RT Tryz.results101 ?_);refine aF [] (.bool _) rfl ?_;simp[I,cX];all_goals first|rfl|simp_all|omega
theorem bQ4 (w:aK)(hl:w.length<2^40):bM Tryz.prog 84 [.str w] (fun v=>v= .int .i64 (sizeW w:Nat)):=by
 refine FW Tryz.func84 ?_;refine R0 ?_;refine R0 ?_;refine aC fun K J=>?_;refine R0 ?_;refine aL ?_;refine bB (α:={i:Nat//i≤w.length}) (fun i=>(fin [(0,.c (.str w)),(3,.c (.int .i64 (dG (w.take i.1)).length)),(4,.c (.int .i64 i.1))],fob [])) 100 (fun i=>w.length-i.1) ⟨0,by omega⟩ (fF) ?_;rintro⟨i,hi⟩;have hle:=nG w i;have ad:=uT w;refine aC fun K J=>?_;refine AU ?_;refine aJ (b:=decide ((i:Int)<w.length)) rfl (fun U=>?_) (fun U=>?_)
 ·
  have I:i<w.length:=by simpa using U
  have hgd:w.getD i 0=w[i]:=by simp[I]
  have hs:=tA I;refine aG ?_;refine T0 (J _ _ _ ?_);clear J K;refine aC fun K J=>?_;refine aL ?_;have F:=B0 _ (show-9223372036854775808≤((dG (w.take i)).length:Int)+1∧((dG (w.take i)).length:Int)+1≤9223372036854775807 by omega);refine RF ?_;refine aC fun K J=>Rg ?_;iterate 3 refine S0 ?_ (e:=fun _ h_=>by simp only[sH,↓sP,sA,tyS,simprocAttr,A1,A4,I,hgd];exact AX h_)
  refine HS rfl rfl fun K' aa=>?_;simp only[sH,↓sP,sA,tyS,simprocAttr,A1,A4,I,hgd];refine C1 (vL w[i]) ?_;rintro u rfl;refine AX (aa _ _ ?_);clear aa K';refine S0 ?_ (e:=fun _ h_=>by simp only[sH,↓sP,sA,tyS,simprocAttr,A1,A4,I,hgd];exact AX h_);refine T2 (J _ _ _ ?_);clear J K;refine aJ (b:=!cX w[i]) rfl (fun U=>?_) (fun U=>?_)
  ·
   refine aM (by kernel_rfl) ?_;refine TQ (B0 _ (show-9223372036854775808≤((dG (w.take i)).length:Int)+1+2∧((dG (w.take i)).length:Int)+1+2≤9223372036854775807 by omega)) ?_;refine AX (J _ _ _ ?_);clear J K;refine aM (by kernel_rfl) ?_;refine TQ (cW i) ?_;have hp:cX w[i]=false:=by simpa using U
   have he:((dG (w.take i)).length:Int)+1+2=((dG (w.take (i+1))).length:Int):=by
    rw[hs,A3,lH,A7 (by rw[hp];simp)];simp;omega
   simp only[he];refine⟨⟨i+1,I⟩,fF,?_⟩;show w.length-(i+1)<w.length-i;omega
  refine aG ?_;refine T0 (J _ _ _ ?_);clear J K;refine aM (by kernel_rfl) ?_;refine TQ (cW i) ?_;have hp:cX w[i]=true:=by simpa using U
  have he:((dG (w.take i)).length:Int)+1=((dG (w.take (i+1))).length:Int):=by
   rw[hs,A3,lH,B1 hp];simp
  simp only[he];refine⟨⟨i+1,I⟩,fF,?_⟩;show w.length-(i+1)<w.length-i;omega
 refine aV (T3 ?_);clear J K;refine AX (J _ _ _ ?_);clear J K;have F:=@dN4;refine RF ?_;refine aE (RT Tryz.results84 ?_);have ab:i=w.length:=by simp at U;omega
 subst ab;exact aF [] (.int .i64 (sizeW w:Nat)) (by rw[C6];rfl) rfl
theorem bQ5 (w:aK)(hl:w.length<2^40):bM Tryz.prog 85 [.str w] (fun v=>v= .str (gY w)):=by
 refine FW Tryz.func85 ?_;refine R0 ?_;refine aC fun K I=>?_;refine R0 ?_;refine aJ (b:=w==[]) rfl (fun U=>?_) (fun U=>?_)
 · refine R0 ?_;refine aE (RT Tryz.results85 ?_);exact aF [] (.str [126]) rfl (by rw[gY,B1 (by simpa using U)])
 refine aG ?_;refine T0 (I _ _ _ ?_);clear I K;have ad:w≠[]:=by simpa using U
 have hz:(sizeW w:Int)≤140737488355328:=by have:=dA w;omega
 clear U;refine RS ?_;have F:=aI @A1 (aI hz @Int.mul_one);refine SF ?_;refine SCF (bQ4 w hl) ?_;iterate 2 refine SF ?_
 refine RE ?_;refine aC fun K I=>?_;refine R0 ?_;refine aL ?_;refine bB (α:={i:Nat//i≤w.length}) (fun i=>(fin [(0,.c (.str w)),(3,.own 20 (dG (w.take i.1)).length),(4,.c (.int .i64 i.1))],fob [(20,.row 5 1 ((dG (w.take i.1)).map cM))])) 100 (fun i=>w.length-i.1) ⟨0,by omega⟩ (fF) ?_;rintro⟨i,hi⟩;have hle:=nG w i;have ag:=uT w;refine aC fun K I=>?_;refine AU ?_;refine aJ (b:=decide ((i:Int)<w.length)) rfl (fun U=>?_) (fun U=>?_)
 ·
  have J:i<w.length:=by simpa using U
  have hgd:w.getD i 0=w[i]:=by simp[J]
  have hs:=tA J;refine aG ?_;refine T0 (I _ _ _ ?_);clear I K;refine aC fun K I=>?_;refine aL ?_;refine aC fun K I=>Rg ?_;iterate 3 refine S0 ?_ (e:=fun _ h_=>by simp only[sH,↓sP,sA,tyS,simprocAttr,A1,A4,J,hgd];exact AX h_)
  refine HS rfl rfl fun K' aa=>?_;simp only[sH,↓sP,sA,tyS,simprocAttr,A1,A4,J,hgd];refine C1 (vL w[i]) ?_;rintro u rfl;refine AX (aa _ _ ?_);clear aa K';refine T2 (I _ _ _ ?_);clear I K;refine aJ (b:=cX w[i]) rfl (fun U=>?_) (fun U=>?_)
  ·
   refine Rg ?_;iterate 7 refine S0 ?_ (e:=fun _ h_=>by simp only[sH,↓sP,sA,tyS,simprocAttr,A1,A4,J,hgd,A3,A0];exact AX h_)
   refine T2 (I _ _ _ ?_);clear I K;refine aM (by kernel_rfl) ?_;refine TQ (cW i) ?_;refine⟨⟨i+1,J⟩,bA (by omega) ?_ ?_,?_⟩
   · rw[hs,lH,B1 U];simp
   · rw[hs,lH,B1 U,C5];exact⟨rfl,by omega,trivial,trivial⟩
   show w.length-(i+1)<w.length-i;omega
  have ab:((w[i].toNat/16:Nat):Int)<16:=by have:=w[i].toNat_lt;omega
  have ae:((w[i].toNat%16:Nat):Int)<16:=by omega
  refine DW [(0,[],[]),(1,[],[]),(2,[],[]),(3,[],[]),(4,[],[]),(5,[],[]),(6,[],[]),(7,[],[]),(8,[],[]),(9,[],[]),(10,[],[]),(11,[],[]),(12,[],[]),(13,[],[])] [0,0,0,6,14,30,0,0,192,448,960,2046,4095,8191] ?_;iterate 14 refine W0 ?_ (e:=fun _ h_=>by simp only[sH,↓sP,sA,tyS,simprocAttr,A1,A4,J,hgd,A3,A0,dE1,cG9,ab,ae];exact AX h_)
  refine T2 (I _ _ _ ?_);clear I K;refine aM (by kernel_rfl) ?_;refine TQ (cW i) ?_;refine⟨⟨i+1,J⟩,bA (by omega) ?_ ?_,?_⟩
  · rw[hs,lH,A7 (by rw[U];simp)];simp
  · rw[hs,lH,A7 (by rw[U];simp),C5];exact⟨rfl,by omega,trivial,trivial⟩
  show w.length-(i+1)<w.length-i;omega
 refine aV (T3 ?_);clear I K;refine AX (I _ _ _ ?_);clear I K;refine bW [20] (aZ (fr2:=fin [(3,.c (.slc ((dG (w.take i)).map cM)))]) (ob2:=fob []) (nx2:=200) (bA (by omega) (by simp[bT]) (by simp)) ?_);have F:=@bytesC_map;refine RF ?_;refine aE (RT Tryz.results85 ?_);have af:i=w.length:=by simp at U;omega
 subst af;exact aF [] (.str (dG w)) (by rw[C6];rfl) (by rw[gY,A7 ad])
theorem bC2 (l:List aK)(hl:l.length<2^40):bM Tryz.prog 83 [.slc (l.map .str)] (fun v=>v= .int .i64 (gZ l)):=by
 refine FW Tryz.func83 ?_;refine R0 ?_;refine aC fun K J=>?_;refine aL ?_;refine AU ?_;refine aJ (b:=(l.length:Int)==0) rfl (fun I=>?_) (fun I=>?_)
 · refine R0 ?_;refine aE (RT Tryz.results83 ?_);exact aF [] (.int .i64 1) rfl (by rw[gZ,B1 (by simp at I;simp[I])])
 have aa:l.length≠0:=by simp at I;simp[I]
 clear I;refine AU ?_;refine aJ (b:=decide ((120:Int)<l.length)) rfl (fun I=>?_) (fun I=>?_)
 · refine R0 ?_;refine aE (RT Tryz.results83 ?_);exact aF [] (.int .i64 3) rfl (by rw[gZ,A7 aa,B1 (by simp at I;omega)])
 refine aG ?_;refine T0 (J _ _ _ ?_);clear J K;refine aC fun K J=>?_;have ae:l.length≤120:=by simp at I;omega
 clear I;refine R0 ?_;refine aL ?_;refine bB (α:={i:Nat//i≤l.length∧ ∀x∈l.take i,decide (32768<x.length)=false}) (fun i=>(fin [(13,.c (.slc (l.map .str))),(14,.c (.int .i64 l.length)),(15,.c (.int .i64 i.1))],fob [])) 100 (fun i=>l.length-i.1) ⟨0,by omega,by simp⟩ (fF) ?_;rintro⟨i,hi,h0⟩;refine R0 ?_;refine aC fun K J=>?_;refine aJ (b:=decide ((i:Int)<l.length)) rfl (fun I=>?_) (fun I=>?_)
 ·
  have U:i<l.length:=by simpa using I
  clear I;refine aG ?_;refine T0 (J _ _ _ ?_);clear J K;refine aC fun K J=>?_;refine aL ?_;have F:=aI @A1 (aI @A4 (aI U (nM U)));refine AU ?_;refine aJ (b:=decide ((32768:Int)<l[i].length)) rfl (fun I=>?_) (fun I=>?_)
  · refine R0 ?_;refine aE (RT Tryz.results83 ?_);exact aF [] (.int .i64 3) rfl (by rw[gZ,A7 aa,A7 (by omega),B1];simp only[R4,C4];exact⟨_,B5 U,by simp at I;omega⟩)
  refine aG ?_;refine T0 (J _ _ _ ?_);clear J K;refine aM (by kernel_rfl) ?_;refine TQ (cW i) ?_;have ab:decide (32768<l[i].length)=false:=by simp at I⊢;omega
  refine⟨⟨i+1,U,aN3 (p:=fun x=>decide (32768<x.length)) U ab h0⟩,fF,?_⟩;show l.length-(i+1)<l.length-i;omega
 refine aV (T3 ?_);clear J K;refine AX (J _ _ _ ?_);clear J K;refine R0 ?_;refine aE (RT Tryz.results83 ?_);have ad:i=l.length:=by simp at I;omega
 subst ad;rw[C6]at h0;exact aF [] (.int .i64 0) rfl (by rw[gZ,A7 aa,A7 (by omega),A7];simp only[R4,not_exists,not_and];intro x hx;simp[h0 x hx])
theorem dF5 (ls:List (List aK))(h0:ls.length<2^40)(h1: ∀l∈ls,l.length<2^40):fH Tryz.prog 48 [.slc (ls.map fun l=> .slc (l.map .str))] (fun u v=>u= .slc ((jZ ls).map cM)∧v= .int .i64 (jN ls)):=by
 refine FW Tryz.func48 ?_;refine R0 ?_;refine aC fun K I=>?_;refine R0 ?_;refine aJ (b:=decide ((1000:Int)<ls.length)) rfl (fun J=>?_) (fun J=>?_)
 · refine R0 ?_;refine aE (RT Tryz.results48 ?_);have hE:=nY (ls:=ls) (by simp at J;omega);refine aO [] (.slc []) (.int .i64 3) ?_ ⟨by rw[kY (by rw[hE];decide)];rfl,by rw[hE]⟩;simp
 refine aG ?_;refine T0 (I _ _ _ ?_);clear I K;refine aC fun K I=>?_;have hn:ls.length≤1000:=by simp at J;omega
 clear J;refine R0 ?_;refine aL ?_;refine bB (α:={i:Nat//i≤ls.length∧ ∀x∈ls.take i,okL x=true}) (fun i=>(fin [(0,.c (.slc (ls.map fun l=> .slc (l.map .str)))),(20,.c (.slc (ls.map fun l=> .slc (l.map .str)))),(21,.c (.int .i64 ls.length)),(22,.c (.int .i64 i.1))],fob [])) 100 (fun i=>ls.length-i.1) ⟨0,by omega,by simp⟩ (fF) ?_;rintro⟨i,hi,hk⟩;refine R0 ?_;refine aC fun K I=>?_;refine aJ (b:=decide ((i:Int)<ls.length)) rfl (fun J=>?_) (fun J=>?_)
 ·
  have U:i<ls.length:=by simpa using J
  clear J;have aj:=h1 ls[i] (B5 U);refine aG ?_;refine T0 (I _ _ _ ?_);clear I K;refine aC fun K I=>?_;refine aL ?_;have F:=aI @A1 (aI @A4 (aI U (nM U)));refine AU ?_;refine SC (bC2 ls[i] aj) ?_;refine AU ?_;refine aJ (b:=gZ ls[i] !=0) rfl (fun J=>?_) (fun J=>?_)
  · refine R0 ?_;refine aE (RT Tryz.results48 ?_);have hE:=fY hn U hk (by simpa[okL]using J);refine aO [] (.slc []) (.int .i64 (gZ ls[i])) ?_ ⟨by rw[kY (by rw[hE];simpa using J)];rfl,by rw[hE]⟩;simp
  refine aG ?_;refine T0 (I _ _ _ ?_);clear I K;refine aM (by kernel_rfl) ?_;refine TQ (cW i) ?_;refine⟨⟨i+1,U,?_⟩,fF,?_⟩
  ·
   intro x hx;rw[A5 U,D6,E5]at hx;rcases hx with hx|rfl
   · exact hk x hx
   simpa[okL]using J
  show ls.length-(i+1)<ls.length-i;omega
 have ad:i=ls.length:=by simp at J;omega
 subst ad;clear J;rw[C6]at hk;have ax: ∀l∈ls,l≠[]:=fun l hl=>((eG l).1 (hk l hl)).1;have bn:=zN hk;have an:=kX ax;have hE:=oY hn hk;have aw: ∀j,sumD (ls.take j)≤sumD ls:=fun j=>aS9 ls j;have az: ∀j,(dU (ls.take j)).length≤sumD ls:=fun j=>by rw[kX fun l hl=>ax l (J3 hl)];exact aw j
 refine aV (T3 ?_);clear I K;refine AX (I _ _ _ ?_);clear I K;refine R0 ?_;refine aC fun K I=>?_;refine R0 ?_;refine aL ?_;refine bB (α:={i:Nat//i≤ls.length}) (fun i=>(fin [(0,.c (.slc (ls.map fun l=> .slc (l.map .str)))),(7,.c (.int .i64 (sumD (ls.take i.1):Nat))),(32,.c (.slc (ls.map fun l=> .slc (l.map .str)))),(33,.c (.int .i64 ls.length)),(34,.c (.int .i64 i.1))],fob [])) 200 (fun i=>ls.length-i.1) ⟨0,by omega⟩ (fF) ?_;rintro⟨i,hi⟩;refine R0 ?_;refine aC fun K I=>?_;refine aJ (b:=decide ((i:Int)<ls.length)) rfl (fun J=>?_) (fun J=>?_)
 ·
  have U:i<ls.length:=by simpa using J
  clear J;have ao:=bW6 U;have aq:=aw (i+1);obtain⟨l,hl⟩: ∃l,l=ls[i]:=⟨_,rfl⟩;obtain⟨ba,aj,ah⟩:=(eG l).1 (hk l (by rw[hl];exact B5 U));have ak:nth (ls.map fun l=>CV.slc (l.map .str)) i= .slc (l.map .str):=by rw[aW U,hl]
  rw[←hl]at ao;refine aG ?_;refine T0 (I _ _ _ ?_);clear I K;refine aC fun K I=>?_;refine aL ?_;have F:=aI @A1 (aI @A4 (aI U ak));refine AU ?_;refine aL ?_;refine bB (α:={i:Nat//i≤l.length}) (fun k=>(fin [(0,.c (.slc (ls.map fun l=> .slc (l.map .str)))),(7,.c (.int .i64 (sumD (ls.take i)+gS (l.take k.1):Nat))),(32,.c (.slc (ls.map fun l=> .slc (l.map .str)))),(33,.c (.int .i64 ls.length)),(34,.c (.int .i64 i)),(38,.c (.slc (l.map .str))),(39,.c (.int .i64 l.length)),(40,.c (.int .i64 k.1))],fob [])) 300 (fun k=>l.length-k.1) ⟨0,by omega⟩ (fF) ?_;rintro⟨k,bb⟩;refine R0 ?_;refine aC fun K I=>?_;refine aJ (b:=decide ((k:Int)<l.length)) rfl (fun J=>?_) (fun J=>?_)
  ·
   have aa:k<l.length:=by simpa using J
   clear J;have bg:=bW5 aa;have bf:=uU l (k+1);have bc:=ah l[k] (B5 aa);refine aG ?_;refine T0 (I _ _ _ ?_);clear I K;refine aC fun K I=>?_;refine aL ?_;have F:=aI @A1 (aI @A4 (aI aa (nM aa)));refine RF ?_;refine Rg ?_;have F:=aI (B0 _ (show-9223372036854775808≤((sizeW l[k]:Nat):Int)+1∧((sizeW l[k]:Nat):Int)+1≤9223372036854775807 by omega)) (B0 _ (show-9223372036854775808≤((sumD (ls.take i)+gS (l.take k):Nat):Int)+(((sizeW l[k]:Nat):Int)+1)∧((sumD (ls.take i)+gS (l.take k):Nat):Int)+(((sizeW l[k]:Nat):Int)+1)≤9223372036854775807 by omega));refine AU ?_;refine SCF (bQ4 l[k] (by omega)) ?_;refine AU ?_;refine T2 (I _ _ _ ?_);clear I K;refine aM (by kernel_rfl) ?_;refine TQ (cW k) ?_;have he:((sumD (ls.take i)+gS (l.take k):Nat):Int)+(((sizeW l[k]:Nat):Int)+1)=((sumD (ls.take i)+gS (l.take (k+1)):Nat):Int):=by omega
   simp only[he];refine⟨⟨k+1,aa⟩,fF,?_⟩;show l.length-(k+1)<l.length-k;omega
  have ai:k=l.length:=by simp at J;omega
  subst ai;clear J;refine aV (T3 ?_);clear I K;refine AX (I _ _ _ ?_);clear I K;refine aM (by kernel_rfl) ?_;refine TQ (cW i) ?_;have he:((sumD (ls.take i)+gS (l.take l.length):Nat):Int)=((sumD (ls.take (i+1)):Nat):Int):=by rw[C6];omega
  simp only[he];refine⟨⟨i+1,U⟩,fF,?_⟩;show ls.length-(i+1)<ls.length-i;omega
 have ad:i=ls.length:=by simp at J;omega
 subst ad;clear J;refine aV (T3 ?_);clear I K;refine AX (I _ _ _ ?_);clear I K;refine aC fun K I=>?_;have F:=@C6.{0};refine RF ?_;refine aJ (b:=decide ((262144:Int)<(sumD ls:Nat))) rfl (fun J=>?_) (fun J=>?_)
 · refine R0 ?_;refine aE (RT Tryz.results48 ?_);rw[B1 (by rw[an];simp at J;omega)]at hE;refine aO [] (.slc []) (.int .i64 3) ?_ ⟨by rw[kY (by rw[hE];decide)];rfl,by rw[hE]⟩;simp
 refine aG ?_;refine T0 (I _ _ _ ?_);clear I K;have hle:sumD ls≤262144:=by simp at J;omega
 have hz:((sumD ls:Nat):Int)≤140737488355328:=by omega
 clear J;rw[A7 (by rw[an];omega)]at hE;have hO:=uW hE;have F:=aI @A1 (aI hz (aI @Int.mul_one @C6.{0}));refine RF ?_;refine aC fun K I=>?_;refine R0 ?_;refine aL ?_;refine bB (α:={i:Nat//i≤ls.length}) (fun i=>(fin [(12,.own 216 (dU (ls.take i.1)).length),(55,.c (.slc (ls.map fun l=> .slc (l.map .str)))),(56,.c (.int .i64 ls.length)),(57,.c (.int .i64 i.1))],fob [(216,.row 5 1 ((dU (ls.take i.1)).map cM))])) 400 (fun i=>ls.length-i.1) ⟨0,by omega⟩ (fF) ?_;rintro⟨i,hi⟩;refine R0 ?_;refine aC fun K I=>?_;refine aJ (b:=decide ((i:Int)<ls.length)) rfl (fun J=>?_) (fun J=>?_)
 ·
  have U:i<ls.length:=by simpa using J
  clear J;have ae:=rE U;have bd:=az i;obtain⟨l,hl⟩: ∃l,l=ls[i]:=⟨_,rfl⟩;have ay:=hk l (by rw[hl];exact B5 U);have bm:=bP0 ay;obtain⟨ba,aj,ah⟩:=(eG l).1 ay;have ak:nth (ls.map fun l=>CV.slc (l.map .str)) i= .slc (l.map .str):=by rw[aW U,hl]
  rw[←hl]at ae;refine aG ?_;refine T0 (I _ _ _ ?_);clear I K;refine aC fun K I=>?_;refine aL ?_;have F:=aI @A1 (aI @A4 (aI U ak));refine RF ?_;refine aC fun K I=>?_;refine R0 ?_;refine aL ?_;refine bB (α:={i:Nat//i≤l.length}) (fun k=>(fin [(12,.own 216 (dU (ls.take i)++fR (l.take k.1)).length),(55,.c (.slc (ls.map fun l=> .slc (l.map .str)))),(56,.c (.int .i64 ls.length)),(57,.c (.int .i64 i)),(61,.c (.slc (l.map .str))),(62,.c (.int .i64 l.length)),(63,.c (.int .i64 k.1))],fob [(216,.row 5 1 ((dU (ls.take i)++fR (l.take k.1)).map cM))])) 500 (fun k=>l.length-k.1) ⟨0,by omega⟩ (fF) ?_;rintro⟨k,bb⟩;have bl:=bO9 (l.take k);have aq:=uU l k;refine R0 ?_;refine aC fun K I=>?_;refine aJ (b:=decide ((k:Int)<l.length)) rfl (fun J=>?_) (fun J=>?_)
  ·
   have aa:k<l.length:=by simpa using J
   clear J;have bc:=ah l[k] (B5 aa);have bk:=mA l[k];have bj:=dA l[k];have bh:=nW l[k];have ar:0<(gY l[k]).length:=by omega
   have af:=nX aa;have au:(dU (ls.take i)).length+(fR (l.take k)).length+(gY l[k]).length≤140737488355328:=by omega
   have ag:(dU (ls.take i)).length+(fR (l.take k)).length+1+(gY l[k]).length≤140737488355328:=by omega
   refine aG ?_;refine T0 (I _ _ _ ?_);clear I K;refine aC fun K I=>?_;refine aL ?_;refine RS ?_;have F:=aI @A1 (aI @A4 (aI aa (nM aa)));iterate 5 refine SF ?_
   refine RE ?_;refine aC fun K I=>?_;refine R0 ?_;refine aJ (b:=decide ((0:Int)<k)) rfl (fun J=>?_) (fun J=>?_)
   ·
    refine Rg ?_;have F:=aI @A3.{0} @A0.{0,0};refine AU ?_;refine T2 (I _ _ _ ?_);clear I K;refine Rg ?_;have F:=aI @A3.{0} (aI @A0.{0,0} (aI ar (aI au ag)));refine AU ?_;refine SCF (bQ5 l[k] (by omega)) ?_;refine AU ?_;refine T2 (I _ _ _ ?_);clear I K;refine aM (by kernel_rfl) ?_;refine TQ (cW k) ?_;have ab:k≠0:=by simp at J;omega
    refine⟨⟨k+1,aa⟩,bA (by omega) ?_ ?_,?_⟩
    · rw[af,A7 ab];simp;omega
    · rw[af,A7 ab];simp only[C5,←List.append_assoc];exact⟨rfl,by omega,trivial,trivial⟩
    show l.length-(k+1)<l.length-k;omega
   refine aG ?_;refine T0 (I _ _ _ ?_);clear I K;refine Rg ?_;have F:=aI @A3.{0} (aI @A0.{0,0} (aI ar (aI au ag)));refine AU ?_;refine SCF (bQ5 l[k] (by omega)) ?_;refine AU ?_;refine T2 (I _ _ _ ?_);clear I K;refine aM (by kernel_rfl) ?_;refine TQ (cW k) ?_;have ab:k=0:=by simp at J;omega
   refine⟨⟨k+1,aa⟩,bA (by omega) ?_ ?_,?_⟩
   · rw[af,B1 ab];simp;omega
   · rw[af,B1 ab,J1];simp only[C5,←List.append_assoc];exact⟨rfl,by omega,trivial,trivial⟩
   show l.length-(k+1)<l.length-k;omega
  have ai:k=l.length:=by simp at J;omega
  subst ai;clear J;rw[C6]at*;refine aV (T3 ?_);clear I K;refine AX (I _ _ _ ?_);clear I K;refine Rg ?_;have F:=aI @A3.{0} @A0.{0,0};refine AU ?_;refine T2 (I _ _ _ ?_);clear I K;refine aM (by kernel_rfl) ?_;refine TQ (cW i) ?_;refine⟨⟨i+1,U⟩,bA (by omega) ?_ ?_,?_⟩
  · rw[ae,rX];simp;omega
  · rw[ae,rX];simp only[C5,←List.append_assoc];exact⟨rfl,by omega,trivial,trivial⟩
  show ls.length-(i+1)<ls.length-i;omega
 refine aV (T3 ?_);clear I K;refine AX (I _ _ _ ?_);clear I K;refine R0 ?_;refine aE (RT Tryz.results48 ?_);have ad:i=ls.length:=by simp at J;omega
 subst ad;refine aO [216] (.slc ((dU ls).map cM)) (.int .i64 0) ?_ ⟨by rw[hO],by rw[hE]⟩;rw[C6];simp[C8,bT]
def wlK :List (Int×List UInt8):=[(1,oB),(2,tH),(3,vH),(4,xK),(5,xL)]
theorem cV4 (k:Int):(lkG wlK k).getD []=wordK k∧(lkG wlK k).isSome=inB k 1 5:=by
 by_cases h:1≤k∧k≤5
 ·
  obtain rfl|rfl|rfl|rfl|rfl:k=1∨k=2∨k=3∨k=4∨k=5:=by omega
  all_goals decide
 have I: ∀z:Int,1≤z→z≤5→(z==k)=false:=fun z J z2=>J2.2 (by omega);have e:lkG wlK k=none:=by
  simp only[lkG,wlK,List.find?_cons,List.find?_nil,I 1 (by omega) (by omega),I 2 (by omega) (by omega),I 3 (by omega) (by omega),I 4 (by omega) (by omega),I 5 (by omega) (by omega),P6]
 rw[e];refine⟨?_,?_⟩
 · unfold wordK;rw[A7 (by omega),A7 (by omega),A7 (by omega),A7 (by omega),A7 (by omega)];rfl
 have:inB k 1 5=false:=by
  unfold inB;simp;omega
 rw[this];rfl
theorem cK3 :lst []=fob []:=by funext i;simp[lst,fob,cZ]
theorem cV5 :cD6 Tryz.prog 130:=⟨3,9,Tryz.underlying130,Tryz.underlying3,fun w=>by rw[Tryz.zeroValue9]⟩
theorem cK4 (n:Nat)(ob:Ob)(x:Array MapEntry)(c:Nat):iL (sub [] n) ob 0 [.raw x c]=upd ob n (some (.raw x c)):=rfl
theorem bQ6 (n:Nat):HV.ren (sub [] n) (.mapr 0)= .mapr n:=rfl
theorem bC3 :HGe Tryz.prog 82 [] [] (fun r J=>r= .mapr 0∧J=[.raw (jK wlK) 5]):=by
 refine bO (args:=[]) Tryz.func82 rfl (by kernel_rfl) (dQ rfl (by simp[cV]) (by simp)) (C7 rfl) ?_;show Hw _ _ 0 _ _ _ (lst _) 0;rw[cK3];refine R0 ?_;refine aC fun K U=>bO8 ?_;refine bJ8 (by kernel_rfl) rfl rfl rfl rfl ?_;refine nV (l:=[]) (z:=1) (s:=oB) (by kernel_rfl) rfl rfl rfl rfl Tryz.underlying130 Tryz.underlying3 rfl rfl rfl rfl rfl ?_;refine nV (l:=[(1,oB)]) (z:=2) (s:=tH) (by kernel_rfl) rfl rfl rfl rfl Tryz.underlying130 Tryz.underlying3 rfl rfl rfl rfl rfl ?_;refine nV (l:=[(1,oB),(2,tH)]) (z:=3) (s:=vH) (by kernel_rfl) rfl rfl rfl rfl Tryz.underlying130 Tryz.underlying3 rfl rfl rfl rfl rfl ?_;refine nV (l:=[(1,oB),(2,tH),(3,vH)]) (z:=4) (s:=xK) (by kernel_rfl) rfl rfl rfl rfl Tryz.underlying130 Tryz.underlying3 rfl rfl rfl rfl rfl ?_;refine nV (l:=[(1,oB),(2,tH),(3,vH),(4,xK)]) (z:=5) (s:=xL) (by kernel_rfl) rfl rfl rfl rfl Tryz.underlying130 Tryz.underlying3 rfl rfl rfl rfl rfl ?_;iterate 2
  (refine bA5 (g:=none) (by kernel_rfl) rfl rfl fun K' I=>?_;simp only[sH,↓sP,sA,tyS,simprocAttr];(repeat refine AI ?_);refine I _ _ ?_;clear I K')
 refine aD2 rfl (U _ _ _ ?_);clear U K;refine aE (RT Tryz.results82 ?_);exact eM [] [4] (.mapr 0) [.raw (jK wlK) 5] rfl (by simp) ⟨⟨by simp,by simp,_,rfl,rfl⟩,trivial⟩ rfl (by simp) (by simp) (by simp) ⟨rfl,rfl⟩
theorem aU0 (n:Int)(hn: -9223372036854775808≤n∧n≤9223372036854775807):uP Tryz.prog 44 tabs [.int .i64 n] (fun u v=>u= .str (fT n)∧v= .bool (fU n)):=by
 refine bO (args:=[.c (.int .i64 n)]) Tryz.func44 rfl (by kernel_rfl) (iP tabs [.int .i64 n]) (C7 rfl) ?_;unfold iM;refine R0 ?_;refine aC fun K U=>Rg ?_;refine S0 ?_;refine HS rfl rfl fun K' J=>T5 ?_;refine lY (args:=[_]) 0 (cJ9 n hn) rfl (by simp) ⟨rfl,rfl,rfl,rfl⟩ ?_;rintro u rfl;refine AX (J _ _ ?_);clear J K';refine AU ?_;refine aH 7 rfl (fun I=>?_) (fun I=>?_)
 · have F:=I;refine AU ?_;refine T2 (U _ _ _ ?_);clear U K;refine aE (RT Tryz.results44 ?_);refine gI [] (.str (fT n)) (.bool _) rfl rfl (by simp) ⟨rfl,?_⟩;simp only[fU,inB,I,B6,B9];all_goals first|rfl|(rw[show decide (0≤n)=true from by assumption];rfl)|(rw[show decide (0≤n)=false from by assumption];rfl)
 have F:=I;refine AU ?_;refine T2 (U _ _ _ ?_);clear U K;refine aE (RT Tryz.results44 ?_);refine gI [] (.str (fT n)) (.bool _) rfl rfl (by simp) ⟨rfl,?_⟩;simp only[fU,inB,I,B6,B9];all_goals first|rfl|(rw[show decide (0≤n)=true from by assumption];rfl)|(rw[show decide (0≤n)=false from by assumption];rfl)
end Go.Proofs.YthedbjfipmkpiaaGreatDoor
