/- Part of a proof: walks of functions of the program, by contracts, and the rules they use. By an AI agent. -/
import Derived.Test.YthedbjfipmkpiaaGreatDoorPl02g
import Derived.Test.YthedbjfipmkpiaaGreatDoorHdFm
import Derived.Test.YthedbjfipmkpiaaGreatDoorHdSb
import Derived.Shelf.LaysM
import Derived.Shelf.Strings.BuilderK
import Derived.Test.YthedbjfipmkpiaaGreatDoorHlTlaw
import Derived.Test.YthedbjfipmkpiaaGreatDoorChecked
import Derived.WalkKit
import Derived.BigCall
set_option linter.unusedSimpArgs false
set_option linter.unusedVariables false
set_option linter.defProp false
namespace Go.Proofs.YthedbjfipmkpiaaGreatDoor
open Go Go.Hl Go.Pl
set_option maxRecDepth 10000
set_option maxHeartbeats 16000000
theorem tH (n:Int)(hn: -9223372036854775808≤n∧n≤9223372036854775807):cJ Tryz.prog 52 [.int .i64 n] (fun v=>v= .str (fB n)):=by
 refine FW Tryz.func52 ?_;refine R0 ?_;refine aB fun K hK=>?_;refine R0 ?_;refine aH (b:=n==0) rfl (fun hb=>?_) (fun hb=>?_)
 · refine R0 ?_;refine aF (RT Tryz.results52 ?_);exact aJ [] (.str [48]) rfl (by rw[show n=0 from by simpa using hb,aF2])
 refine aK ?_;refine T0 (hK _ _ _ ?_);clear hK K;have hne:n≠0:=by simpa using hb
 clear hb;refine aB fun K hK=>Rg ?_;iterate 4 refine S0 ?_
 refine T2 (hK _ _ _ ?_);clear hK K;refine aB fun K hK=>?_;have key: ∀(sg:aG) (u:Nat) fr ob nx,(u<18446744073709551616∧u≠0∧sg.length≤1∧fB n=sg++Lib.decDigits u)→Fits 0 fr ob (fin [(3,.c (.str sg)),(4,.c (.int .u64 u))]) (fob []) 600→K fr ob nx:=by
  rintro sg u fr ob nx ⟨hu,hu0,hsg,hnum⟩ hf;refine hK _ _ _ (bE hf ?_);clear hf hK K;have hdl:=bX7 hu;refine R0 ?_;refine aB fun K hK=>?_;refine aN ?_;refine bF (α:={y:Nat×aG//y.1≤u∧(if y.1=0 then []else Lib.decDigits y.1)++y.2=Lib.decDigits u}) (fun y=>(fin [(3,.c (.str sg)),(4,.c (.int .u64 y.1.1)),(5,.c (.str y.1.2))],fob [])) 100 (fun y=>y.1.1) ⟨(u,[]),by simp,by simp[hu0]⟩ (fF) ?_;rintro⟨⟨v,s⟩,hv,hs⟩;simp only at hv hs⊢;have hsl:s.length≤20:=by
   have:=congrArg List.length hs;rw[List.length_append]at this;omega
  refine aB fun K hK=>?_;refine R0 ?_;refine aH (b:=decide ((0:Int)<v)) rfl (fun hb=>?_) (fun hb=>?_)
  ·
   have hv0:v≠0:=by simp at hb;omega
   clear hb;have hv64:v<18446744073709551616:=by omega
   have h10:((10:Int)=0)↔False:=by simp
   have hsl1:[UInt8.ofNat (48+v%10)].length+s.length≤9223372036854775807:=by simp;omega
   rw[if_neg hv0,bX6 hv0]at hs;refine aK ?_;refine T0 (hK _ _ _ ?_);clear hK K;refine aN ?_;refine aB fun K hK=>bY (by kernel_rfl) ?_;simp only[sR,simprocAttr];have F:=aI @yY (aI @qW (aI h10 hsl1));iterate 4 refine SGF ?_
   refine eB (g:=none) 124 rfl rfl fun K' hK'=>?_;simp only[iT,kW,sH,↓sP,sA,tyS,simprocAttr,yY,qW,h10,hsl1];repeat refine AI ?_
   refine dO (by first|rfl|simp) ?_;try simp only[sH,↓sP,sA,tyS,simprocAttr,yY,qW,h10,hsl1]
   refine AX (hK' _ _ ?_);clear hK' K';iterate 4 refine SGF ?_
   refine T2 (hK _ _ _ ?_);clear hK K;refine aD (by kernel_rfl) ?_;simp only[↓sP,sA,tyS,simprocAttr,cH7 hv64,h10];refine⟨⟨(v/10,[UInt8.ofNat (48+v%10)]++s),by simp only;omega,by simp only;rw[←hs,List.append_assoc]⟩,fF,?_⟩;show v/10<v;omega
  have hv0:v=0:=by simp at hb;omega
  clear hb;subst hv0;rw[if_pos rfl,List.nil_append]at hs;subst hs;have hle:sg.length+(Lib.decDigits u).length≤9223372036854775807:=by omega
  refine bA (T3 ?_);clear hK K;refine AX (hK _ _ _ ?_);clear hK K;refine aB fun K hK=>Rg ?_;have F:=hle;iterate 4 refine SF ?_
  refine T2 (hK _ _ _ ?_);clear hK K;refine aF (RT Tryz.results52 ?_);exact aJ [] (.str _) rfl (by rw[hnum])
 refine R0 ?_;refine aH (b:=decide (n<0)) rfl (fun hb=>?_) (fun hb=>?_)
 ·
  have hlt:n<0:=by simpa using hb
  refine Rg ?_;have F:=aK6 hlt hn.1;iterate 4 refine SF ?_
  refine T4 ?_;first
   |exact key [45] n.natAbs _ _ _ ⟨by omega,by omega,by simp,aS1 (by simpa using hb)⟩ (by rw[←aK6 (by simpa using hb) hn.1];exact fF)
   |(have h0:0≤n:=(by simp at hb;omega);exact key [] n.natAbs _ _ _ ⟨by omega,by omega,by simp,yX h0⟩ (by rw[←bE9 h0 hn.2];exact fF))
 refine aK (T3 ?_);first
  |exact key [45] n.natAbs _ _ _ ⟨by omega,by omega,by simp,aS1 (by simpa using hb)⟩ (by rw[←aK6 (by simpa using hb) hn.1];exact fF)
  |(have h0:0≤n:=(by simp at hb;omega);exact key [] n.natAbs _ _ _ ⟨by omega,by omega,by simp,yX h0⟩ (by rw[←bE9 h0 hn.2];exact fF))
theorem bZ3 (n:Int)(hn: -9223372036854775808≤n∧n≤9223372036854775807):oH Tryz.prog 46 tabs [.int .i64 n] (fun v=>v= .str (fB n)):=by
 refine cI (args:=[.c (.int .i64 n)]) Tryz.func46 rfl (by kernel_rfl) (gJ tabs [.int .i64 n]) (Nat.le_of_ble_eq_true rfl) ?_;refine R0 ?_;refine aB fun K hK=>Rg ?_;refine S0 ?_;refine HS rfl rfl fun K' hK'=>T5 ?_;refine kM (args:=[_,_]) 0 (bN5 n hn) (gX _ 0) (by simp) ⟨rfl,rfl,rfl,rfl⟩ ?_;rintro u rfl;refine AX (hK' _ _ ?_);clear hK' K';refine S0 ?_;refine T2 (hK _ _ _ ?_);clear hK K;refine aF (RT Tryz.results46 ?_);exact nC [] (.str _) rfl (gX _ 0) (by simp) rfl
end Go.Proofs.YthedbjfipmkpiaaGreatDoor
namespace Go.Proofs.YthedbjfipmkpiaaGreatDoor
open Go Go.Hl Go.Pl Go.RowKit Go.Shelf
set_option maxRecDepth 100000
def bF5 :Go.Shelf.Ren:=⟨fun|169=>109|n=>n,fun|70=>154|9=>9|0=>0|72=>156|37=>52|127=>179|3=>3|5=>5|n=>n,fun|n=>n⟩
theorem bs0 :Go.Proofs.Lays.n169 Tryz.prog bF5:={
  mixed:=by kernel_rfl
  f169:=Tryz.func109.trans (congrArg some (by kernel_rfl))
  t0:=Tryz.underlying0
  a0:=Tryz.isAgg0
  z0:=Tryz.sizeOf0
  v0:=Tryz.zeroValue0
  t3:=Tryz.underlying3
  a3:=Tryz.isAgg3
  z3:=Tryz.sizeOf3
  v3:=Tryz.zeroValue3
  t9:=Tryz.underlying9
  a9:=Tryz.isAgg9
  z9:=Tryz.sizeOf9
  v9:=Tryz.zeroValue9
  t37:=Tryz.underlying52
  a37:=Tryz.isAgg52
  z37:=Tryz.sizeOf52
  v37:=Tryz.zeroValue52
  t70:=Tryz.underlying154
  a70:=Tryz.isAgg154
  z70:=Tryz.sizeOf154
  v70:=Tryz.zeroValue154
  t72:=Tryz.underlying156
  a72:=Tryz.isAgg156
  z72:=Tryz.sizeOf156
  v72:=Tryz.zeroValue156
  t127:=Tryz.underlying179
  a127:=Tryz.isAgg179
  z127:=Tryz.sizeOf179
  v127:=Tryz.zeroValue179}
theorem bsx0 :Builder.Extra Tryz.prog bF5:={
  sizeBuilder:=by kernel_rfl
  liesBuilder:=by kernel_rfl
  t5:=Tryz.underlying5
  a5:=Tryz.isAgg5
  z5:=Tryz.sizeOf5
  v5:=Tryz.zeroValue5
  infoByte:=by kernel_rfl
  cellsByte:=by kernel_rfl
  sizeByte:=by kernel_rfl
  neB5:=by decide}
set_option maxHeartbeats 1000000 in
theorem cI5 (b:Nat)(w:World)(h0:w.cell? ⟨b,0,none⟩=some (.pointer (some ⟨b,0,none⟩))):
    Calls Tryz.prog 134 #[.pointer (some ⟨b,0,none⟩)] w fun e w'=>e= .returned (.tuple #[])∧w'=w:=by
  obtain⟨j,hj,_⟩:=Option.map_eq_some_iff.1 bsx0.sizeBuilder
  go_enter Tryz.func134,Tryz.ntmps134
  go_wp2
  rw[Lib.run_neq_ptr_same w _ Tryz.underlying154 hj]
  go_wp2
  go_end0
  exact⟨rfl,rfl⟩
set_option maxHeartbeats 1000000 in
theorem bZ4 (b:Nat)(w:World)(h0:w.cell? ⟨b,0,none⟩=some (.pointer none))(hsh:w.shape? b=some (156,2))(hfz:w.frozen? ⟨b,0,none⟩=false):
    Calls Tryz.prog 134 #[.pointer (some ⟨b,0,none⟩)] w fun e w'=>e= .returned (.tuple #[])∧w'=w.setCell ⟨b,0,none⟩ (.pointer (some ⟨b,0,none⟩)):=by
  obtain⟨j,hj,hjs⟩:=Option.map_eq_some_iff.1 bsx0.sizeBuilder
  go_enter Tryz.func134,Tryz.ntmps134
  go_wp2
  rw[Lib.run_to_unsafe w ⟨b,0,none⟩ Tryz.underlying154 Tryz.underlying196 hj (by rw[hjs];decide) hsh (Nat.zero_lt_succ 1)];simp only[Result.andThen];rw[Oper.upon_value]
  go_wp2
  rw[run_callFunc_extern Tryz.func160 (by kernel_rfl) (by kernel_rfl) (by kernel_rfl) (e:=Extern.AbiNoEscape.same) (by kernel_rfl)];rw[Lib.run_noEscape];simp only[Result.andThen];rw[Oper.upon_value]
  go_wp2
  rw[Lib.run_from_unsafe w ⟨b,0,none⟩ Tryz.underlying196 Tryz.underlying154 hj hsh bsx0.liesBuilder];simp only[Result.andThen];rw[Oper.upon_value]
  go_wp2
  go_end0
  exact⟨rfl,rfl⟩
theorem cY6 (B b:Nat)(bs:List Value)(w:World)(h:Lib.IsBuilderF 156 5 B b bs w):
    Calls Tryz.prog 134 #[.pointer (some ⟨b,0,none⟩)] w fun e w'=>e= .returned (.tuple #[])∧(Lib.BuilderAtF 156 5 B b (.pointer (some ⟨b,0,none⟩)) bs w'∧Below B w w'∧Lib.OthersKept 5 (some b) w w'):=by
  rcases h with h|h
  · refine(bZ4 b w h.cell0 h.shape h.frozen0).mono ?_
    rintro e w' ⟨rfl,rfl⟩;exact⟨rfl,h.used _,(Below.refl B w).setCell (p:=⟨b,0,none⟩) h.1 _,(Lib.OthersKept.refl _ _ w).setCell ⟨b,0,none⟩ rfl _⟩
  · refine(cI5 b w h.cell0).mono ?_
    rintro e w' ⟨rfl,rfl⟩;exact⟨rfl,h,Below.refl B _,Lib.OthersKept.refl _ _ _⟩
set_option maxHeartbeats 16000000 in
theorem cV6 (B b:Nat)(bs:List Value)(c:Int)(w:World)(h:Lib.IsBuilderF 156 5 B b bs w)(hlen:bs.length+1≤140737488355328)(hBw:B≤w.heap.size):
    Calls Tryz.prog 108 #[.pointer (some ⟨b,0,none⟩),.int .u8 c] w fun e w'=>e= .returned .nilIface∧(Lib.BuilderAtF 156 5 B b (.pointer (some ⟨b,0,none⟩)) (bs++[.int .u8 c]) w'∧Below B w w'∧Lib.OthersKept 5 (some b) w w'):=by
  obtain⟨i0,hi,hz0,hz1,hz2⟩:=info_parts bsx0.infoByte
  go_enter Tryz.func108,Tryz.ntmps108
  go_wp2_with (go_at_call 134;refine(cY6 B b bs _ h).mono ?_)
  rintro e w1 ⟨rfl,h1,hb1,hk1⟩;obtain⟨hB,v,hbk,hown,hne⟩:=h1;have c0:w1.cell? ⟨b,0,none⟩=some (.pointer (some ⟨b,0,none⟩)):=by rw[Lib.cell_of_heap hbk];rfl
  have c1:w1.cell? ⟨b,1,none⟩=some v:=by rw[Lib.cell_of_heap hbk];rfl
  go_wp2_with (at_builtin;refine wpList_append_ownF _ rfl _ _ 52 rfl B 5 i0 (.int .u8 0) 1 1 Tryz.underlying52 hi hz0 hz1 hz2 rfl (by decide) _ _ _ rfl (hown.alloc _) ⟨w1.heap.size,0,none⟩ 1 1 [.int .u8 c] rfl rfl ?c1 ?c2 ?c3 ?c4 ?c5 ?_)
  case c1=>
    intro j u hj
    match j,hj with
    |0,hj=>simp at hj;subst hj;simp[Addr.add]
  case c2=>intro u hu;simp at hu;subst hu;rfl
  case c3=>unfold maxLen;omega
  case c4=>omega
  case c5=>have:=hb1.size;simp;omega
  intro v' w2 hown' hgrow _;have hlt:b<w1.heap.size:=by
    rcases Nat.lt_or_ge b w1.heap.size with h'|h'
    · exact h'
    · simp[Array.getElem?_eq_none h']at hbk
  have hb2:w2.heap[b]? =some (.cells #[.pointer (some ⟨b,0,none⟩),v] 156 (0,0)):=by
    rw[hgrow.block b (by simp;omega) (fun e=>hne e.symm),Lib.alloc_old w1 _ b hlt];exact hbk
  have d0:w2.cell? ⟨b,0,none⟩=some (.pointer (some ⟨b,0,none⟩)):=by rw[Lib.cell_of_heap hb2];rfl
  have d1:w2.cell? ⟨b,1,none⟩=some v:=by rw[Lib.cell_of_heap hb2];rfl
  have f1:w2.frozen? ⟨b,1,none⟩=false:=Lib.frozen_of_heap hb2 1;obtain⟨g,cap,rfl⟩: ∃g cap,v'= .slice (some ⟨g,0,none⟩) (bs.length+1) cap:=by
    rcases hown'.2 with⟨_,h0⟩|⟨g,cap,cur,fz,hv,_⟩
    · omega
    · exact⟨g,cap,hv⟩
  go_wp2
  go_ret
  refine⟨rfl,?_,?_,((hk1.alloc _).grown hgrow (Lib.ownsRowF_kind (hown.alloc _))).setCell ⟨b,1,none⟩ rfl _⟩
  · exact Lib.BuilderAtF.put (T:=156) (e:=5) hB hb2 (bs':=bs++[.int .u8 c]) (by simpa using hown') (by decide)
  · exact((hb1.alloc (by have:=hb1.size;omega) _).grown hgrow (by have:=hb1.size;simp;omega) (fun k hk=>(hown.lt k hk).1)).setCell (p:=⟨b,1,none⟩) hB _
set_option maxHeartbeats 16000000 in
theorem bZ5 (bs:List UInt8)(h0:0<bs.length)(hl:bs.length<2^40)(b off c:Nat)(w:World)(hc: ∀j,j<bs.length→w.cell? ⟨b,off+j,none⟩=some (.int .u8 (bs.getD j 0).toNat)):
    Calls Tryz.prog 80 #[.slice (some ⟨b,off,none⟩) bs.length c] w fun e w'=>e= .returned (.string ⟨(gR bs).toArray⟩)∧Below w.heap.size w w':=by
  have hb:b<w.heap.size:=by
    rcases Nat.lt_or_ge b w.heap.size with h'|h'
    · exact h'
    · have:=hc 0 h0
      simp[World.cell?,Array.getElem?_eq_none h']at this
  go_enter Tryz.func80,Tryz.ntmps80
  go_wp2
  go_loopw [8] (fun vi wr=> ∃(i:Nat),vi= .int .i64 i∧i≤bs.length∧Lib.IsBuilderF 156 5 w.heap.size w.heap.size (Lib.byteCells (gR (bs.take i))) wr∧Below w.heap.size w wr) (fun vi _=>bs.length-(intOf vi).toNat)
  case atStart=>
    exact⟨0,rfl,by omega,(Lib.IsBuilderF.of (Lib.fresh_isBuilder 156 5 w)),(Below.refl _ w).alloc (Nat.le_refl _) _⟩
  case round=>
    obtain⟨i,rfl,hi,hI,hB⟩:=hrel;have hsz:w.heap.size≤wr.heap.size:=hB.size;by_cases hlt:i<bs.length
    · have hcell:wr.cell? ⟨b,off+i,none⟩=some (.int .u8 (bs[i].toNat)):=by
        have:=hc i hlt;simp only[World.cell?,hB.block b hb]at this⊢;simpa[hlt]using this
      have hx0:=bs[i].toNat_lt;have hx1:0≤(bs[i].toNat:Int)/16∧(bs[i].toNat:Int)/16<16:=by omega
      have hx2:0≤(bs[i].toNat:Int)%16∧(bs[i].toNat:Int)%16<16:=by omega
      have hlen:(Lib.byteCells (gR (bs.take i))).length+1≤140737488355328:=by rw[Lib.byteCells_length,jN,List.length_take];omega
      go_wp2_with (go_at_call 108;refine(cV6 w.heap.size w.heap.size _ _ _ hI hlen hsz).mono ?_)
      rintro e W1 ⟨rfl,h1,b1,k1⟩;have hsz1:w.heap.size≤W1.heap.size:=by have:=b1.size;omega
      have e1: ∀(l:List UInt8) (x:UInt8),Lib.byteCells l++[Value.int .u8 x.toNat]=Lib.byteCells (l++[x]):=fun l x=>by rw[Lib.byteCells_append];rfl
      rw[e1]at h1;have hlen1: ∀x:UInt8,(Lib.byteCells (gR (bs.take i)++[x])).length+1≤140737488355328:=fun x=>by rw[Lib.byteCells_length,List.length_append,jN,List.length_take];simp;omega
      go_wp2_with (go_at_call 108;refine(cV6 w.heap.size w.heap.size _ _ _ (Or.inr h1) (hlen1 _) hsz1).mono ?_)
      rintro e W2 ⟨rfl,h2,b2,k2⟩;rw[e1]at h2
      go_wp2
      go_roundw
      case rel=>
        refine⟨i+1,by simp,hlt,Or.inr ?_,(hB.trans b1).trans b2⟩;rw[aE3 hlt,aZ4,nJ,nJ];have g1: ∀(n:Nat) (h:n<16),(([48,49,50,51,52,53,54,55,56,57,97,98,99,100,101,102]:List UInt8).getD n 0)=(⟨#[48,49,50,51,52,53,54,55,56,57,97,98,99,100,101,102]⟩:ByteArray)[n]'h:=by decide
        rw[g1 _ (by omega),g1 _ (by omega)];simpa using h2
      case measure=>
        simp[intOf];omega
    · go_wp2_with (go_at_call 109;refine(Any.Builder_String_any_k bs0 bsx0 w.heap.size w.heap.size (gR (bs.take i)) _ hI (by omega)).mono ?_)
      rintro e W1 ⟨rfl,_,b1,_⟩
      go_wp2
      go_ret
      have:i=bs.length:=by omega
      subst this;rw[List.take_length];exact⟨rfl,hB.trans b1⟩
theorem cQ9 (bs:List UInt8)(h0:0<bs.length)(hl:bs.length<2^40):cJ Tryz.prog 80 [.slc (bs.map u8)] (fun v=>v= .str (gR bs)):=by
  have hok:eO Tryz.prog 80=true:=by kernel_rfl
  refine⟨rV hok,fun w ρ X xs hS hA hX=>Does.of hok ?_⟩;simp only[List.map_cons,List.map_nil,bK,RepHV]at hA;obtain⟨x,zs,rfl,hx,rfl⟩:=hA;have h1:=RepV.single hx rfl;simp only[RepC,List.cons.injEq,and_true]at h1;obtain⟨a,cap,ys,sz,rfl,h2,_,h4,h5,h6⟩:=h1;have hys:ys=bs.map fun b=>Value.int .u8 b.toNat:=by
    have key: ∀(bs:List UInt8) (xs:List Value),RepL w (Owned ρ X) (bs.map u8) xs→xs=bs.map fun b=>Value.int .u8 b.toNat:=by
      intro bs;induction bs with
      |nil=>intro xs h;simpa[RepL]using h
      |cons b bs ih=>
        intro xs h;simp only[List.map_cons,RepL,u8,RepC]at h;obtain⟨c1,c2,rfl,rfl,h7⟩:=h;rw[ih c2 h7];rfl
    exact key bs ys h2
  subst hys;simp only[List.length_map];cases a with
  |none=>
    have hz:=h5 rfl;simp only[List.length_map]at h4;omega
  |some ad=>
    have hr:=(h6 ad rfl).1;have hspot:ad.spot=none:=by
      have:=hr 0 (Value.int .u8 bs[0].toNat) (by simp[h0]);simp only[World.cell?]at this;split at this
      · split at this
        · cases this
        · rename_i hh;simpa[Addr.add]using hh
      · cases this
    obtain⟨b,off,spot⟩:=ad;simp only at hspot;subst hspot;refine(bZ5 bs h0 hl b off cap w fun j hj=>?_).mono ?_
    · have:=hr j (Value.int .u8 bs[j].toNat) (by simp[hj])
      have e:(⟨b,off,none⟩:Addr).add j=⟨b,off+j,none⟩:=by
        by_cases h0:j=0
        · subst h0;rfl
        · simp[Addr.add,h0]
      rw[e]at this;rw[this];simp[hj]
    · rintro ex w' ⟨rfl,hb⟩
      have hs2:Stay2 w (Hl.Own ρ) w' (Hl.Own ρ):=⟨fun g hg _=>hb.block g hg,fun _ h=> .inl h,hb.size,hb.os,hb.tape,hb.output⟩;refine⟨_,_,ρ,_,rfl,⟨_,rfl,rfl,rfl⟩,⟨?_,⟨fun i o ho=>by simp[cZ]at ho,hS.none,hS.apart,hS.xb⟩,by simp[HV.men],fun i o ho=>by simp[cZ]at ho,hs2,Moves.refl _ _⟩⟩;refine bW ?_ rfl rfl;simp[RepC]
end Go.Proofs.YthedbjfipmkpiaaGreatDoor
namespace Go.Proofs.YthedbjfipmkpiaaGreatDoor
open Go Go.Hl Go.Pl
set_option maxRecDepth 10000
set_option maxHeartbeats 16000000
theorem xA (d:Dig):cJ Tryz.prog 45 [dg d] (fun v=>v= .str (jO d)):=by
 refine FW Tryz.func45 ?_;refine R0 ?_;refine bJ5 1 0 rfl rfl ?_;have hle:7+(gR d.1).length≤9223372036854775807:=by rw[jN,d.2];omega
 refine aB fun K hK=>Rg ?_;refine S0 ?_ (e:=fun _ h_=>by simp only[sH,↓sP,sA,tyS,simprocAttr,bT5,iU,d.2,denilL_u8,List.drop_zero,aK5,hle];exact AX h_);refine HS rfl rfl fun K' hK'=>?_;simp only[sH,↓sP,sA,tyS,simprocAttr,bT5,iU,d.2,denilL_u8,List.drop_zero,aK5,hle];refine C1 (cQ9 d.1 (by rw[d.2];omega) (by rw[d.2];omega)) ?_;rintro u rfl;refine AX (hK' _ _ ?_);clear hK' K';iterate 2 refine S0 ?_ (e:=fun _ h_=>by simp only[sH,↓sP,sA,tyS,simprocAttr,bT5,iU,d.2,denilL_u8,List.drop_zero,aK5,hle];exact AX h_)
 refine T2 (hK _ _ _ ?_);clear hK K;refine aF (RT Tryz.results45 ?_);exact aJ [] (.str _) rfl rfl
theorem cI6 (bs:List UInt8)(hl:bs.length<2^40):cJ Tryz.prog 87 [.slc (bs.map u8)] (fun v=>v= .str (gR bs)):=by
 refine FW Tryz.func87 ?_;refine R0 ?_;refine R0 ?_;refine R0 ?_;refine aB fun K hK=>?_;refine R0 ?_;refine aN ?_;refine gQ 4 0 5 1 rfl rfl rfl rfl ?_;refine bF (α:={i:Nat//i≤bs.length}) (fun i=>(fin [(0,.c (.slc (bs.map u8))),(3,.c (.str [48,49,50,51,52,53,54,55,56,57,97,98,99,100,101,102])),(4,.own 16 (gR (bs.take i.1)).length),(5,.c (.int .i64 i.1))],fob [(16,.row 5 1 ((gR (bs.take i.1)).map u8))])) 100 (fun i=>bs.length-i.1) ⟨0,by omega⟩ (fF) ?_;rintro⟨i,hi⟩;have hle:=jN (bs.take i);rw[List.length_take]at hle;refine aB fun K hK=>?_;refine aB fun K hK=>Rg ?_;iterate 4 refine S0 ?_
 refine T2 (hK _ _ _ ?_);clear hK K;refine aH (b:=decide ((i:Int)<bs.length)) rfl (fun hb=>?_) (fun hb=>?_)
 ·
  have hlt:i<bs.length:=by simpa using hb
  have hs:=aE3 hlt;have h16:((bs[i].toNat/16:Nat):Int)<16:=by have:=bs[i].toNat_lt;omega
  have h15:((bs[i].toNat%16:Nat):Int)<16:=by omega
  refine aK ?_;refine T0 (hK _ _ _ ?_);clear hK K;refine aB fun K hK=>?_;refine aN ?_;refine DW [(0,[],[]),(1,[],[]),(2,[],[]),(3,[],[]),(4,[],[]),(5,[],[]),(6,[],[]),(7,[],[]),(8,[],[]),(9,[],[]),(10,[],[]),(11,[],[]),(12,[],[]),(13,[],[]),(14,[],[]),(15,[],[]),(16,[],[]),(17,[],[])] [0,0,0,0,12,28,60,126,0,0,0,1536,3584,7680,16128,32766,65535,131071] ?_;iterate 18 refine W0 ?_ (e:=fun _ h_=>by simp only[sH,↓sP,sA,tyS,simprocAttr,Int.natCast_nonneg,Int.ofNat_lt,hlt,bP hlt,u8,List.length_append,List.length_map,cP7,bV8,h16,h15];exact AX h_)
  refine T2 (hK _ _ _ ?_);clear hK K;refine aD (by kernel_rfl) ?_;refine TQ (fA i) ?_;refine⟨⟨i+1,hlt⟩,aM (by omega) ?_ ?_,?_⟩
  · rw[hs,aZ4];simp[aW,upd_at,fin_at,HV.men]
  · rw[hs,aZ4,List.map_append];exact⟨rfl,by omega,trivial,trivial⟩
  show bs.length-(i+1)<bs.length-i;omega
 refine bA (T3 ?_);clear hK K;refine AX (hK _ _ _ ?_);clear hK K;refine cR [16] (bE (fr2:=fin [(4,.c (.slc ((gR (bs.take i)).map u8)))]) (ob2:=fob []) (nx2:=200) (aM (by omega) (by simp[aW,dA,fin_at,finA_at,upd_at,fob_at,HV.close,HV.closeL,CV.denil,CV.denilL,denilL_u8,HV.men,HV.menL,HV.norm,HV.toC,HV.toCL]) (by simp[aX,dL,fob_at,upd_at,none0_at,bT,HO.close,HV.close,HV.closeL,HO.men,HV.men,HV.menL,HV.norm,HV.toC,HV.toCL])) ?_);have F:=@bM5;refine RF ?_;refine aF (RT Tryz.results87 ?_);have hei:i=bs.length:=by simp at hb;omega
 subst hei;exact aJ [] (.str (gR bs)) (by rw[List.take_length];rfl) rfl
theorem tI (d:Dig):cJ Tryz.prog 51 [dg d] (fun v=>v= .str (jO d)):=by
 refine FW Tryz.func51 ?_;refine R0 ?_;refine R0 ?_;refine aB fun K hK=>?_;refine R0 ?_;refine aN ?_;refine gQ 3 0 5 1 rfl rfl rfl rfl ?_;refine bF (α:={i:Nat//i≤32}) (fun i=>(fin [(1,.ptr 0 0),(3,.own 16 (d.1.take i.1).length),(4,.c (.int .i64 i.1))],fob [(0,.box 44 (.c (dg d))),(16,.row 5 1 ((d.1.take i.1).map u8))])) 100 (fun i=>32-i.1) ⟨0,by omega⟩ (fF) ?_;rintro⟨i,hi⟩;have hhl:d.1.length=32:=d.2;have hti:(d.1.take i).length=i:=by simp;omega
 refine aB fun K hK=>?_;refine R0 ?_;refine aH (b:=decide ((i:Int)<32)) rfl (fun hb=>?_) (fun hb=>?_)
 ·
  have hlt:i<32:=by simp at hb;omega
  have hlt':(i:Int)<32:=by omega
  have hlh:i<d.1.length:=by rw[d.2];exact hlt
  refine aK ?_;refine T0 (hK _ _ _ ?_);clear hK K;refine aB fun K hK=>?_;refine aN ?_;refine Rg ?_;iterate 7 refine S0 ?_ (e:=fun _ h_=>by simp only[sH,↓sP,sA,tyS,simprocAttr,Int.natCast_nonneg,hlt',cQ0 hlt,Nat.mul_one,u8,hti,List.length_append,List.length_map];exact AX h_)
  refine T2 (hK _ _ _ ?_);clear hK K;refine aD (by kernel_rfl) ?_;refine TQ (fA i) ?_;refine⟨⟨i+1,hlt⟩,aM (by omega) ?_ ?_,?_⟩
  · simp[aW,upd_at,fin_at,HV.men,hhl];omega
  · simp only[List.take_succ_eq_append_getElem hlh,List.map_append];exact⟨rfl,by omega,trivial,rfl,by omega,trivial,trivial⟩
  show 32-(i+1)<32-i;omega
 refine bA (T3 ?_);clear hK K;refine AX (hK _ _ _ ?_);clear hK K;have hei:i=32:=by simp at hb;omega
 subst hei;rw[List.take_of_length_le (by omega)];have hle:7+(gR d.1).length≤9223372036854775807:=by rw[jN,d.2];omega
 refine cR [16] (bE (fr2:=fin [(3,.c (.slc (d.1.map u8)))]) (ob2:=fob []) (nx2:=200) (aM (by omega) (by simp[aW,dA,fin_at,finA_at,upd_at,fob_at,HV.close,HV.closeL,CV.denil,CV.denilL,denilL_u8,HV.men,HV.menL,HV.norm,HV.toC,HV.toCL]) (by simp[aX,dL,fob_at,upd_at,none0_at,bT,HO.close,HV.close,HV.closeL,HO.men,HV.men,HV.menL,HV.norm,HV.toC,HV.toCL])) ?_);refine aB fun K hK=>Rg ?_;have F:=aI hle @denilL_u8;refine SF ?_;refine HS rfl rfl fun K' hK'=>T6 ?_;refine C1 (cI6 d.1 (by rw[d.2];omega)) ?_;rintro u rfl;refine AX (hK' _ _ ?_);clear hK' K';iterate 2 refine SF ?_
 refine T2 (hK _ _ _ ?_);clear hK K;refine aF (RT Tryz.results51 ?_);exact aJ [] (.str _) rfl rfl
theorem kP (n:Int):cJ Tryz.prog 49 [.int .i64 n] (fun v=>v= .bool (inN n)):=by
 refine FW Tryz.func49 ?_;refine R0 ?_;refine aB fun K hK=>Rg ?_;iterate 3 refine S0 ?_
 refine aL 4 rfl (fun h1_4=>?_) (fun h1_4=>?_)
 ·
  have F:=h1_4;iterate 4 refine SF ?_
  refine T2 (hK _ _ _ ?_);clear hK K;refine aF (RT Tryz.results49 ?_);refine aJ [] (.bool _) rfl ?_;simp[h1_4,inN,yF];all_goals first|rfl|simp_all
 have F:=h1_4;iterate 4 refine SF ?_
 refine T2 (hK _ _ _ ?_);clear hK K;refine aF (RT Tryz.results49 ?_);refine aJ [] (.bool _) rfl ?_;simp[h1_4,inN,yF];all_goals first|rfl|simp_all
theorem cI7 (s:aG)(hl:s.length<2^63):cJ Tryz.prog 154 [.str s] (fun v=>v= .bool (gW s)):=by
 refine FW Tryz.func154 ?_;refine R0 ?_;refine aB fun K hK=>?_;refine aB fun K hK=>Rg ?_;iterate 4 refine S0 ?_
 refine aL 7 rfl (fun h1_7=>?_) (fun h1_7=>?_)
 ·
  have F:=h1_7;iterate 4 refine SF ?_
  refine T2 (hK _ _ _ ?_);clear hK K;refine CT rfl ?_;refine R0 ?_;refine aF (RT Tryz.results154 ?_);exact aJ [] (.bool false) rfl (by rw[aF1 (by simp at h1_7;omega)])
 have F:=h1_7;iterate 4 refine SF ?_
 refine T2 (hK _ _ _ ?_);clear hK K;refine aH (b:=_) rfl (fun hb=>?_) (fun hb=>?_)
 · refine R0 ?_;refine aF (RT Tryz.results154 ?_);exact aJ [] (.bool false) rfl (by rw[aF1 (by simp at hb;omega)])
 refine aK ?_;refine T0 (hK _ _ _ ?_);clear hK K;refine aB fun K hK=>?_;refine R0 ?_;refine aN ?_;have hlen:1≤s.length∧s.length≤64:=by simp at h1_7 hb;omega
 refine bF (α:={i:Nat//i≤s.length∧ ∀j (_:j<i) (h:j<s.length),okc j s[j]=true}) (fun i=>(fin [(0,.c (.str s)),(3,.c (.int .i64 i.1))],fob [])) 100 (fun i=>s.length-i.1) ⟨0,by omega,fun j h=>by omega⟩ (fF) ?_;clear hb;rintro⟨i,hi,h0⟩;refine aB fun K hK=>?_;refine aB fun K hK=>Rg ?_;iterate 4 refine SF ?_
 refine T2 (hK _ _ _ ?_);clear hK K;refine aH (b:=decide ((i:Int)<s.length)) rfl (fun hb=>?_) (fun hb=>?_)
 ·
  have hlt:i<s.length:=by simpa using hb
  have hgd:s.getD i 0=s[i]:=by simp[hlt]
  refine aK ?_;refine T0 (hK _ _ _ ?_);clear hK K;refine aB fun K hK=>?_;refine aN ?_;refine aB fun K hK=>Rg ?_;iterate 4 refine S0 ?_ (e:=fun _ h_=>by simp only[sH,↓sP,sA,tyS,simprocAttr,Int.natCast_nonneg,Int.ofNat_lt,hlt,hgd,h1_7];exact AX h_)
  refine T2 (hK _ _ _ ?_);clear hK K;refine aB fun K hK=>?_;refine aB fun K hK=>?_;have key: ∀(b:Bool) fr ob nx,b=okc i s[i]→Fits 0 fr ob (fin [(0,.c (.str s)),(3,.c (.int .i64 i)),(51,.c (.bool b))]) (fob []) 600→K fr ob nx:=by
   rintro b fr ob nx rfl hf;refine hK _ _ _ (bE hf ?_);clear hf hK K;refine aH (b:=okc i s[i]) rfl (fun hb=>?_) (fun hb=>?_)
   · refine bA (T3 ?_);clear hK K;refine AX (hK _ _ _ ?_);clear hK K;refine aD (by kernel_rfl) ?_;refine TQ (fA i) ?_;refine⟨⟨i+1,hlt,bM3 hlt hb h0⟩,fF,?_⟩;show s.length-(i+1)<s.length-i;omega
   refine aK ?_;refine T0 (hK _ _ _ ?_);clear hK K;refine R0 ?_;refine aF (RT Tryz.results154 ?_);exact aJ [] (.bool false) rfl (by rw[bM2 hlt hb])
  refine Rg ?_;iterate 3 refine SF ?_
  refine aL 23 rfl (fun h7_23=>?_) (fun h7_23=>?_)
  ·
   have F:=aI h1_7 h7_23;iterate 4 refine SF ?_
   refine aL 26 rfl (fun h7_26=>?_) (fun h7_26=>?_)
   ·
    have F:=aI h1_7 (aI h7_23 h7_26);iterate 23 refine SF ?_
    refine T4 ?_;exact key true _ _ _ (by simp only[okc,alZ,puZ,h1_7,h7_23,h7_26,Bool.and_true,Bool.and_false,Bool.true_and,Bool.false_and,Bool.or_true,Bool.true_or,Bool.false_or,Bool.or_false,Bool.and_self,Bool.or_self]) (fF)
   have F:=aI h1_7 (aI h7_23 h7_26);iterate 3 refine SF ?_
   refine aL 30 rfl (fun h7_30=>?_) (fun h7_30=>?_)
   ·
    have F:=aI h1_7 (aI h7_23 (aI h7_26 h7_30));iterate 5 refine SF ?_
    refine aL 33 rfl (fun h7_33=>?_) (fun h7_33=>?_)
    ·
     have F:=aI h1_7 (aI h7_23 (aI h7_26 (aI h7_30 h7_33)));iterate 15 refine SF ?_
     refine T4 ?_;exact key true _ _ _ (by simp only[okc,alZ,puZ,h1_7,h7_23,h7_26,h7_30,h7_33,Bool.and_true,Bool.and_false,Bool.true_and,Bool.false_and,Bool.or_true,Bool.true_or,Bool.false_or,Bool.or_false,Bool.and_self,Bool.or_self]) (fF)
    have F:=aI h1_7 (aI h7_23 (aI h7_26 (aI h7_30 h7_33)));iterate 3 refine SF ?_
    refine aL 38 rfl (fun h7_38=>?_) (fun h7_38=>?_)
    ·
     have F:=aI h1_7 (aI h7_23 (aI h7_26 (aI h7_30 (aI h7_33 h7_38))));iterate 3 refine SF ?_
     refine aL 41 rfl (fun h7_41=>?_) (fun h7_41=>?_)
     ·
      have F:=aI h1_7 (aI h7_23 (aI h7_26 (aI h7_30 (aI h7_33 (aI h7_38 h7_41)))));iterate 9 refine SF ?_
      refine T4 ?_;exact key true _ _ _ (by simp only[okc,alZ,puZ,h1_7,h7_23,h7_26,h7_30,h7_33,h7_38,h7_41,Bool.and_true,Bool.and_false,Bool.true_and,Bool.false_and,Bool.or_true,Bool.true_or,Bool.false_or,Bool.or_false,Bool.and_self,Bool.or_self]) (fF)
     have F:=aI h1_7 (aI h7_23 (aI h7_26 (aI h7_30 (aI h7_33 (aI h7_38 h7_41)))));iterate 4 refine SF ?_
     refine aL 44 rfl (fun h7_44=>?_) (fun h7_44=>?_)
     ·
      have F:=aI h1_7 (aI h7_23 (aI h7_26 (aI h7_30 (aI h7_33 (aI h7_38 (aI h7_41 h7_44))))));iterate 5 refine SF ?_
      refine T4 ?_;exact key true _ _ _ (by simp only[okc,alZ,puZ,h1_7,h7_23,h7_26,h7_30,h7_33,h7_38,h7_41,h7_44,Bool.and_true,Bool.and_false,Bool.true_and,Bool.false_and,Bool.or_true,Bool.true_or,Bool.false_or,Bool.or_false,Bool.and_self,Bool.or_self]) (fF)
     have F:=aI h1_7 (aI h7_23 (aI h7_26 (aI h7_30 (aI h7_33 (aI h7_38 (aI h7_41 h7_44))))));iterate 5 refine SF ?_
     refine aL 48 rfl (fun h7_48=>?_) (fun h7_48=>?_)
     · simp only[h7_48];refine T4 ?_;exact key true _ _ _ (by simp only[okc,alZ,puZ,h1_7,h7_23,h7_26,h7_30,h7_33,h7_38,h7_41,h7_44,h7_48,Bool.and_true,Bool.and_false,Bool.true_and,Bool.false_and,Bool.or_true,Bool.true_or,Bool.false_or,Bool.or_false,Bool.and_self,Bool.or_self]) (fF)
     simp only[h7_48];refine T4 ?_;exact key false _ _ _ (by simp only[okc,alZ,puZ,h1_7,h7_23,h7_26,h7_30,h7_33,h7_38,h7_41,h7_44,h7_48,Bool.and_true,Bool.and_false,Bool.true_and,Bool.false_and,Bool.or_true,Bool.true_or,Bool.false_or,Bool.or_false,Bool.and_self,Bool.or_self]) (fF)
    have F:=aI h1_7 (aI h7_23 (aI h7_26 (aI h7_30 (aI h7_33 h7_38))));iterate 12 refine SF ?_
    refine T4 ?_;exact key false _ _ _ (by simp only[okc,alZ,puZ,h1_7,h7_23,h7_26,h7_30,h7_33,h7_38,Bool.and_true,Bool.and_false,Bool.true_and,Bool.false_and,Bool.or_true,Bool.true_or,Bool.false_or,Bool.or_false,Bool.and_self,Bool.or_self]) (fF)
   have F:=aI h1_7 (aI h7_23 (aI h7_26 h7_30));iterate 8 refine SF ?_
   refine aL 38 rfl (fun h7_38=>?_) (fun h7_38=>?_)
   ·
    have F:=aI h1_7 (aI h7_23 (aI h7_26 (aI h7_30 h7_38)));iterate 3 refine SF ?_
    refine aL 41 rfl (fun h7_41=>?_) (fun h7_41=>?_)
    ·
     have F:=aI h1_7 (aI h7_23 (aI h7_26 (aI h7_30 (aI h7_38 h7_41))));iterate 9 refine SF ?_
     refine T4 ?_;exact key true _ _ _ (by simp only[okc,alZ,puZ,h1_7,h7_23,h7_26,h7_30,h7_38,h7_41,Bool.and_true,Bool.and_false,Bool.true_and,Bool.false_and,Bool.or_true,Bool.true_or,Bool.false_or,Bool.or_false,Bool.and_self,Bool.or_self]) (fF)
    have F:=aI h1_7 (aI h7_23 (aI h7_26 (aI h7_30 (aI h7_38 h7_41))));iterate 4 refine SF ?_
    refine aL 44 rfl (fun h7_44=>?_) (fun h7_44=>?_)
    ·
     have F:=aI h1_7 (aI h7_23 (aI h7_26 (aI h7_30 (aI h7_38 (aI h7_41 h7_44)))));iterate 5 refine SF ?_
     refine T4 ?_;exact key true _ _ _ (by simp only[okc,alZ,puZ,h1_7,h7_23,h7_26,h7_30,h7_38,h7_41,h7_44,Bool.and_true,Bool.and_false,Bool.true_and,Bool.false_and,Bool.or_true,Bool.true_or,Bool.false_or,Bool.or_false,Bool.and_self,Bool.or_self]) (fF)
    have F:=aI h1_7 (aI h7_23 (aI h7_26 (aI h7_30 (aI h7_38 (aI h7_41 h7_44)))));iterate 5 refine SF ?_
    refine aL 48 rfl (fun h7_48=>?_) (fun h7_48=>?_)
    · simp only[h7_48];refine T4 ?_;exact key true _ _ _ (by simp only[okc,alZ,puZ,h1_7,h7_23,h7_26,h7_30,h7_38,h7_41,h7_44,h7_48,Bool.and_true,Bool.and_false,Bool.true_and,Bool.false_and,Bool.or_true,Bool.true_or,Bool.false_or,Bool.or_false,Bool.and_self,Bool.or_self]) (fF)
    simp only[h7_48];refine T4 ?_;exact key false _ _ _ (by simp only[okc,alZ,puZ,h1_7,h7_23,h7_26,h7_30,h7_38,h7_41,h7_44,h7_48,Bool.and_true,Bool.and_false,Bool.true_and,Bool.false_and,Bool.or_true,Bool.true_or,Bool.false_or,Bool.or_false,Bool.and_self,Bool.or_self]) (fF)
   have F:=aI h1_7 (aI h7_23 (aI h7_26 (aI h7_30 h7_38)));iterate 12 refine SF ?_
   refine T4 ?_;exact key false _ _ _ (by simp only[okc,alZ,puZ,h1_7,h7_23,h7_26,h7_30,h7_38,Bool.and_true,Bool.and_false,Bool.true_and,Bool.false_and,Bool.or_true,Bool.true_or,Bool.false_or,Bool.or_false,Bool.and_self,Bool.or_self]) (fF)
  have F:=aI h1_7 h7_23;iterate 7 refine SF ?_
  refine aL 30 rfl (fun h7_30=>?_) (fun h7_30=>?_)
  ·
   have F:=aI h1_7 (aI h7_23 h7_30);iterate 5 refine SF ?_
   refine aL 33 rfl (fun h7_33=>?_) (fun h7_33=>?_)
   ·
    have F:=aI h1_7 (aI h7_23 (aI h7_30 h7_33));iterate 15 refine SF ?_
    refine T4 ?_;exact key true _ _ _ (by simp only[okc,alZ,puZ,h1_7,h7_23,h7_30,h7_33,Bool.and_true,Bool.and_false,Bool.true_and,Bool.false_and,Bool.or_true,Bool.true_or,Bool.false_or,Bool.or_false,Bool.and_self,Bool.or_self]) (fF)
   have F:=aI h1_7 (aI h7_23 (aI h7_30 h7_33));iterate 3 refine SF ?_
   refine aL 38 rfl (fun h7_38=>?_) (fun h7_38=>?_)
   ·
    have F:=aI h1_7 (aI h7_23 (aI h7_30 (aI h7_33 h7_38)));iterate 3 refine SF ?_
    refine aL 41 rfl (fun h7_41=>?_) (fun h7_41=>?_)
    ·
     have F:=aI h1_7 (aI h7_23 (aI h7_30 (aI h7_33 (aI h7_38 h7_41))));iterate 9 refine SF ?_
     refine T4 ?_;exact key true _ _ _ (by simp only[okc,alZ,puZ,h1_7,h7_23,h7_30,h7_33,h7_38,h7_41,Bool.and_true,Bool.and_false,Bool.true_and,Bool.false_and,Bool.or_true,Bool.true_or,Bool.false_or,Bool.or_false,Bool.and_self,Bool.or_self]) (fF)
    have F:=aI h1_7 (aI h7_23 (aI h7_30 (aI h7_33 (aI h7_38 h7_41))));iterate 4 refine SF ?_
    refine aL 44 rfl (fun h7_44=>?_) (fun h7_44=>?_)
    ·
     have F:=aI h1_7 (aI h7_23 (aI h7_30 (aI h7_33 (aI h7_38 (aI h7_41 h7_44)))));iterate 5 refine SF ?_
     refine T4 ?_;exact key true _ _ _ (by simp only[okc,alZ,puZ,h1_7,h7_23,h7_30,h7_33,h7_38,h7_41,h7_44,Bool.and_true,Bool.and_false,Bool.true_and,Bool.false_and,Bool.or_true,Bool.true_or,Bool.false_or,Bool.or_false,Bool.and_self,Bool.or_self]) (fF)
    have F:=aI h1_7 (aI h7_23 (aI h7_30 (aI h7_33 (aI h7_38 (aI h7_41 h7_44)))));iterate 5 refine SF ?_
    refine aL 48 rfl (fun h7_48=>?_) (fun h7_48=>?_)
    · simp only[h7_48];refine T4 ?_;exact key true _ _ _ (by simp only[okc,alZ,puZ,h1_7,h7_23,h7_30,h7_33,h7_38,h7_41,h7_44,h7_48,Bool.and_true,Bool.and_false,Bool.true_and,Bool.false_and,Bool.or_true,Bool.true_or,Bool.false_or,Bool.or_false,Bool.and_self,Bool.or_self]) (fF)
    simp only[h7_48];refine T4 ?_;exact key false _ _ _ (by simp only[okc,alZ,puZ,h1_7,h7_23,h7_30,h7_33,h7_38,h7_41,h7_44,h7_48,Bool.and_true,Bool.and_false,Bool.true_and,Bool.false_and,Bool.or_true,Bool.true_or,Bool.false_or,Bool.or_false,Bool.and_self,Bool.or_self]) (fF)
   have F:=aI h1_7 (aI h7_23 (aI h7_30 (aI h7_33 h7_38)));iterate 12 refine SF ?_
   refine T4 ?_;exact key false _ _ _ (by simp only[okc,alZ,puZ,h1_7,h7_23,h7_30,h7_33,h7_38,Bool.and_true,Bool.and_false,Bool.true_and,Bool.false_and,Bool.or_true,Bool.true_or,Bool.false_or,Bool.or_false,Bool.and_self,Bool.or_self]) (fF)
  have F:=aI h1_7 (aI h7_23 h7_30);iterate 8 refine SF ?_
  refine aL 38 rfl (fun h7_38=>?_) (fun h7_38=>?_)
  ·
   have F:=aI h1_7 (aI h7_23 (aI h7_30 h7_38));iterate 3 refine SF ?_
   refine aL 41 rfl (fun h7_41=>?_) (fun h7_41=>?_)
   ·
    have F:=aI h1_7 (aI h7_23 (aI h7_30 (aI h7_38 h7_41)));iterate 9 refine SF ?_
    refine T4 ?_;exact key true _ _ _ (by simp only[okc,alZ,puZ,h1_7,h7_23,h7_30,h7_38,h7_41,Bool.and_true,Bool.and_false,Bool.true_and,Bool.false_and,Bool.or_true,Bool.true_or,Bool.false_or,Bool.or_false,Bool.and_self,Bool.or_self]) (fF)
   have F:=aI h1_7 (aI h7_23 (aI h7_30 (aI h7_38 h7_41)));iterate 4 refine SF ?_
   refine aL 44 rfl (fun h7_44=>?_) (fun h7_44=>?_)
   ·
    have F:=aI h1_7 (aI h7_23 (aI h7_30 (aI h7_38 (aI h7_41 h7_44))));iterate 5 refine SF ?_
    refine T4 ?_;exact key true _ _ _ (by simp only[okc,alZ,puZ,h1_7,h7_23,h7_30,h7_38,h7_41,h7_44,Bool.and_true,Bool.and_false,Bool.true_and,Bool.false_and,Bool.or_true,Bool.true_or,Bool.false_or,Bool.or_false,Bool.and_self,Bool.or_self]) (fF)
   have F:=aI h1_7 (aI h7_23 (aI h7_30 (aI h7_38 (aI h7_41 h7_44))));iterate 5 refine SF ?_
   refine aL 48 rfl (fun h7_48=>?_) (fun h7_48=>?_)
   · simp only[h7_48];refine T4 ?_;exact key true _ _ _ (by simp only[okc,alZ,puZ,h1_7,h7_23,h7_30,h7_38,h7_41,h7_44,h7_48,Bool.and_true,Bool.and_false,Bool.true_and,Bool.false_and,Bool.or_true,Bool.true_or,Bool.false_or,Bool.or_false,Bool.and_self,Bool.or_self]) (fF)
   simp only[h7_48];refine T4 ?_;exact key false _ _ _ (by simp only[okc,alZ,puZ,h1_7,h7_23,h7_30,h7_38,h7_41,h7_44,h7_48,Bool.and_true,Bool.and_false,Bool.true_and,Bool.false_and,Bool.or_true,Bool.true_or,Bool.false_or,Bool.or_false,Bool.and_self,Bool.or_self]) (fF)
  have F:=aI h1_7 (aI h7_23 (aI h7_30 h7_38));iterate 12 refine SF ?_
  refine T4 ?_;exact key false _ _ _ (by simp only[okc,alZ,puZ,h1_7,h7_23,h7_30,h7_38,Bool.and_true,Bool.and_false,Bool.true_and,Bool.false_and,Bool.or_true,Bool.true_or,Bool.false_or,Bool.or_false,Bool.and_self,Bool.or_self]) (fF)
 refine bA (T3 ?_);clear hK K;refine AX (hK _ _ _ ?_);clear hK K;refine R0 ?_;refine aF (RT Tryz.results154 ?_);have hei:i=s.length:=by simp at hb;omega
 exact aJ [] (.bool true) rfl (by rw[uZ.2 ⟨hlen,fun j h=>h0 j (by omega) h⟩])
theorem tJ (c:UInt8):cJ Tryz.prog 111 [.int .u8 c.toNat] (fun v=>v= .bool (cT c)):=by
 refine FW Tryz.func111 ?_;refine R0 ?_;refine aB fun K hK=>Rg ?_;iterate 3 refine S0 ?_
 refine aL 4 rfl (fun h1_4=>?_) (fun h1_4=>?_)
 ·
  have F:=h1_4;iterate 4 refine SF ?_
  refine aL 7 rfl (fun h1_7=>?_) (fun h1_7=>?_)
  ·
   have F:=aI h1_4 h1_7;iterate 4 refine SF ?_
   refine T2 (hK _ _ _ ?_);clear hK K;refine aF (RT Tryz.results111 ?_);refine aJ [] (.bool _) rfl ?_;simp[h1_4,h1_7,cT];all_goals first|rfl|simp_all|omega
  have F:=aI h1_4 h1_7;iterate 4 refine SF ?_
  refine T2 (hK _ _ _ ?_);clear hK K;refine aF (RT Tryz.results111 ?_);refine aJ [] (.bool _) rfl ?_;simp[h1_4,h1_7,cT];all_goals first|rfl|simp_all|omega
 have F:=h1_4;iterate 8 refine SF ?_
 refine T2 (hK _ _ _ ?_);clear hK K;refine aF (RT Tryz.results111 ?_);refine aJ [] (.bool _) rfl ?_;simp[h1_4,cT];all_goals first|rfl|simp_all|omega
theorem vF (c:UInt8):cJ Tryz.prog 101 [.int .u8 c.toNat] (fun v=>v= .bool (cT c)):=by
 refine FW Tryz.func101 ?_;refine R0 ?_;refine aB fun K hK=>Rg ?_;iterate 3 refine S0 ?_
 refine aL 4 rfl (fun h1_4=>?_) (fun h1_4=>?_)
 ·
  have F:=h1_4;iterate 4 refine SF ?_
  refine aL 7 rfl (fun h1_7=>?_) (fun h1_7=>?_)
  ·
   have F:=aI h1_4 h1_7;iterate 4 refine SF ?_
   refine T2 (hK _ _ _ ?_);clear hK K;refine aF (RT Tryz.results101 ?_);refine aJ [] (.bool _) rfl ?_;simp[h1_4,h1_7,cT];all_goals first|rfl|simp_all|omega
  have F:=aI h1_4 h1_7;iterate 4 refine SF ?_
  refine T2 (hK _ _ _ ?_);clear hK K;refine aF (RT Tryz.results101 ?_);refine aJ [] (.bool _) rfl ?_;simp[h1_4,h1_7,cT];all_goals first|rfl|simp_all|omega
 have F:=h1_4;iterate 8 refine SF ?_
 refine T2 (hK _ _ _ ?_);clear hK K;refine aF (RT Tryz.results101 ?_);refine aJ [] (.bool _) rfl ?_;simp[h1_4,cT];all_goals first|rfl|simp_all|omega
theorem bF6 (w:aG)(hl:w.length<2^40):cJ Tryz.prog 84 [.str w] (fun v=>v= .int .i64 (sizeW w:Nat)):=by
 refine FW Tryz.func84 ?_;refine R0 ?_;refine R0 ?_;refine aB fun K hK=>?_;refine R0 ?_;refine aN ?_;refine bF (α:={i:Nat//i≤w.length}) (fun i=>(fin [(0,.c (.str w)),(3,.c (.int .i64 (dB (w.take i.1)).length)),(4,.c (.int .i64 i.1))],fob [])) 100 (fun i=>w.length-i.1) ⟨0,by omega⟩ (fF) ?_;rintro⟨i,hi⟩;have hle:=lV w i;have hle3:=sS w;refine aB fun K hK=>?_;refine aB fun K hK=>Rg ?_;iterate 4 refine S0 ?_
 refine T2 (hK _ _ _ ?_);clear hK K;refine aH (b:=decide ((i:Int)<w.length)) rfl (fun hb=>?_) (fun hb=>?_)
 ·
  have hlt:i<w.length:=by simpa using hb
  have hgd:w.getD i 0=w[i]:=by simp[hlt]
  have hs:=qS hlt;refine aK ?_;refine T0 (hK _ _ _ ?_);clear hK K;refine aB fun K hK=>?_;refine aN ?_;have F:=IntWalk.i64_in _ (show-9223372036854775808≤((dB (w.take i)).length:Int)+1∧((dB (w.take i)).length:Int)+1≤9223372036854775807 by omega);refine RF ?_;refine aB fun K hK=>Rg ?_;iterate 3 refine S0 ?_ (e:=fun _ h_=>by simp only[sH,↓sP,sA,tyS,simprocAttr,Int.natCast_nonneg,Int.ofNat_lt,hlt,hgd];exact AX h_)
  refine HS rfl rfl fun K' hK'=>?_;simp only[sH,↓sP,sA,tyS,simprocAttr,Int.natCast_nonneg,Int.ofNat_lt,hlt,hgd];refine C1 (tJ w[i]) ?_;rintro u rfl;refine AX (hK' _ _ ?_);clear hK' K';refine S0 ?_ (e:=fun _ h_=>by simp only[sH,↓sP,sA,tyS,simprocAttr,Int.natCast_nonneg,Int.ofNat_lt,hlt,hgd];exact AX h_);refine T2 (hK _ _ _ ?_);clear hK K;refine aH (b:=!cT w[i]) rfl (fun hb=>?_) (fun hb=>?_)
  ·
   refine aD (by kernel_rfl) ?_;refine TQ (IntWalk.i64_in _ (show-9223372036854775808≤((dB (w.take i)).length:Int)+1+2∧((dB (w.take i)).length:Int)+1+2≤9223372036854775807 by omega)) ?_;refine AX (hK _ _ _ ?_);clear hK K;refine aD (by kernel_rfl) ?_;refine TQ (fA i) ?_;have hp:cT w[i]=false:=by simpa using hb
   have he:((dB (w.take i)).length:Int)+1+2=((dB (w.take (i+1))).length:Int):=by
    rw[hs,List.length_append,jV,if_neg (by rw[hp];simp)];simp;omega
   simp only[he];refine⟨⟨i+1,hlt⟩,fF,?_⟩;show w.length-(i+1)<w.length-i;omega
  refine aK ?_;refine T0 (hK _ _ _ ?_);clear hK K;refine aD (by kernel_rfl) ?_;refine TQ (fA i) ?_;have hp:cT w[i]=true:=by simpa using hb
  have he:((dB (w.take i)).length:Int)+1=((dB (w.take (i+1))).length:Int):=by
   rw[hs,List.length_append,jV,if_pos hp];simp
  simp only[he];refine⟨⟨i+1,hlt⟩,fF,?_⟩;show w.length-(i+1)<w.length-i;omega
 refine bA (T3 ?_);clear hK K;refine AX (hK _ _ _ ?_);clear hK K;have F:=@cX8;refine RF ?_;refine aF (RT Tryz.results84 ?_);have hei:i=w.length:=by simp at hb;omega
 subst hei;exact aJ [] (.int .i64 (sizeW w:Nat)) (by rw[List.take_length];rfl) rfl
theorem bF7 (w:aG)(hl:w.length<2^40):cJ Tryz.prog 85 [.str w] (fun v=>v= .str (jC w)):=by
 refine FW Tryz.func85 ?_;refine R0 ?_;refine aB fun K hK=>?_;refine R0 ?_;refine aH (b:=w==[]) rfl (fun hb=>?_) (fun hb=>?_)
 · refine R0 ?_;refine aF (RT Tryz.results85 ?_);exact aJ [] (.str [126]) rfl (by rw[jC,if_pos (by simpa using hb)])
 refine aK ?_;refine T0 (hK _ _ _ ?_);clear hK K;have hne:w≠[]:=by simpa using hb
 have hz:(sizeW w:Int)≤140737488355328:=by have:=eI w;omega
 clear hb;refine aB fun K hK=>Rg ?_;have F:=aI @Int.natCast_nonneg (aI hz @Int.mul_one);refine SF ?_;refine HS rfl rfl fun K' hK'=>T6 ?_;refine C1 (bF6 w hl) ?_;rintro u rfl;refine AX (hK' _ _ ?_);clear hK' K';iterate 2 refine SF ?_
 refine T2 (hK _ _ _ ?_);clear hK K;refine aB fun K hK=>?_;refine R0 ?_;refine aN ?_;refine bF (α:={i:Nat//i≤w.length}) (fun i=>(fin [(0,.c (.str w)),(3,.own 20 (dB (w.take i.1)).length),(4,.c (.int .i64 i.1))],fob [(20,.row 5 1 ((dB (w.take i.1)).map dG))])) 100 (fun i=>w.length-i.1) ⟨0,by omega⟩ (fF) ?_;rintro⟨i,hi⟩;have hle:=lV w i;have hle3:=sS w;refine aB fun K hK=>?_;refine aB fun K hK=>Rg ?_;iterate 4 refine S0 ?_
 refine T2 (hK _ _ _ ?_);clear hK K;refine aH (b:=decide ((i:Int)<w.length)) rfl (fun hb=>?_) (fun hb=>?_)
 ·
  have hlt:i<w.length:=by simpa using hb
  have hgd:w.getD i 0=w[i]:=by simp[hlt]
  have hs:=qS hlt;refine aK ?_;refine T0 (hK _ _ _ ?_);clear hK K;refine aB fun K hK=>?_;refine aN ?_;refine aB fun K hK=>Rg ?_;iterate 3 refine S0 ?_ (e:=fun _ h_=>by simp only[sH,↓sP,sA,tyS,simprocAttr,Int.natCast_nonneg,Int.ofNat_lt,hlt,hgd];exact AX h_)
  refine HS rfl rfl fun K' hK'=>?_;simp only[sH,↓sP,sA,tyS,simprocAttr,Int.natCast_nonneg,Int.ofNat_lt,hlt,hgd];refine C1 (tJ w[i]) ?_;rintro u rfl;refine AX (hK' _ _ ?_);clear hK' K';refine T2 (hK _ _ _ ?_);clear hK K;refine aH (b:=cT w[i]) rfl (fun hb=>?_) (fun hb=>?_)
  ·
   refine Rg ?_;iterate 7 refine S0 ?_ (e:=fun _ h_=>by simp only[sH,↓sP,sA,tyS,simprocAttr,Int.natCast_nonneg,Int.ofNat_lt,hlt,hgd,List.length_append,List.length_map];exact AX h_)
   refine T2 (hK _ _ _ ?_);clear hK K;refine aD (by kernel_rfl) ?_;refine TQ (fA i) ?_;refine⟨⟨i+1,hlt⟩,aM (by omega) ?_ ?_,?_⟩
   · rw[hs,jV,if_pos hb];simp[aW,upd_at,fin_at,HV.men]
   · rw[hs,jV,if_pos hb,List.map_append];exact⟨rfl,by omega,trivial,trivial⟩
   show w.length-(i+1)<w.length-i;omega
  have h16:((w[i].toNat/16:Nat):Int)<16:=by have:=w[i].toNat_lt;omega
  have h15:((w[i].toNat%16:Nat):Int)<16:=by omega
  refine DW [(0,[],[]),(1,[],[]),(2,[],[]),(3,[],[]),(4,[],[]),(5,[],[]),(6,[],[]),(7,[],[]),(8,[],[]),(9,[],[]),(10,[],[]),(11,[],[]),(12,[],[]),(13,[],[])] [0,0,0,6,14,30,0,0,192,448,960,2046,4095,8191] ?_;iterate 14 refine W0 ?_ (e:=fun _ h_=>by simp only[sH,↓sP,sA,tyS,simprocAttr,Int.natCast_nonneg,Int.ofNat_lt,hlt,hgd,List.length_append,List.length_map,cP7,bV8,h16,h15];exact AX h_)
  refine T2 (hK _ _ _ ?_);clear hK K;refine aD (by kernel_rfl) ?_;refine TQ (fA i) ?_;refine⟨⟨i+1,hlt⟩,aM (by omega) ?_ ?_,?_⟩
  · rw[hs,jV,if_neg (by rw[hb];simp)];simp[aW,upd_at,fin_at,HV.men]
  · rw[hs,jV,if_neg (by rw[hb];simp),List.map_append];exact⟨rfl,by omega,trivial,trivial⟩
  show w.length-(i+1)<w.length-i;omega
 refine bA (T3 ?_);clear hK K;refine AX (hK _ _ _ ?_);clear hK K;refine cR [20] (bE (fr2:=fin [(3,.c (.slc ((dB (w.take i)).map dG)))]) (ob2:=fob []) (nx2:=200) (aM (by omega) (by simp[aW,dA,fin_at,finA_at,upd_at,fob_at,HV.close,HV.closeL,CV.denil,CV.denilL,bU,HV.men,HV.menL,HV.norm,HV.toC,HV.toCL]) (by simp[aX,dL,fob_at,upd_at,none0_at,bT,HO.close,HV.close,HV.closeL,HO.men,HV.men,HV.menL,HV.norm,HV.toC,HV.toCL])) ?_);have F:=@bytesC_map;refine RF ?_;refine aF (RT Tryz.results85 ?_);have hei:i=w.length:=by simp at hb;omega
 subst hei;exact aJ [] (.str (dB w)) (by rw[List.take_length];rfl) (by rw[jC,if_neg hne])
theorem aS5 (l:List aG)(hl:l.length<2^40):cJ Tryz.prog 83 [.slc (l.map .str)] (fun v=>v= .int .i64 (nD l)):=by
 refine FW Tryz.func83 ?_;refine R0 ?_;refine aB fun K hK=>?_;refine aN ?_;refine aB fun K hK=>Rg ?_;iterate 4 refine S0 ?_
 refine T2 (hK _ _ _ ?_);clear hK K;refine aH (b:=(l.length:Int)==0) rfl (fun hb=>?_) (fun hb=>?_)
 · refine R0 ?_;refine aF (RT Tryz.results83 ?_);exact aJ [] (.int .i64 1) rfl (by rw[nD,if_pos (by simp at hb;simp[hb])])
 have hn0:l.length≠0:=by simp at hb;simp[hb]
 clear hb;refine aB fun K hK=>Rg ?_;iterate 4 refine S0 ?_
 refine T2 (hK _ _ _ ?_);clear hK K;refine aH (b:=decide ((120:Int)<l.length)) rfl (fun hb=>?_) (fun hb=>?_)
 · refine R0 ?_;refine aF (RT Tryz.results83 ?_);exact aJ [] (.int .i64 3) rfl (by rw[nD,if_neg hn0,if_pos (by simp at hb;omega)])
 refine aK ?_;refine T0 (hK _ _ _ ?_);clear hK K;refine aB fun K hK=>?_;have hn1:l.length≤120:=by simp at hb;omega
 clear hb;refine R0 ?_;refine aN ?_;refine bF (α:={i:Nat//i≤l.length∧ ∀x∈l.take i,decide (32768<x.length)=false}) (fun i=>(fin [(13,.c (.slc (l.map .str))),(14,.c (.int .i64 l.length)),(15,.c (.int .i64 i.1))],fob [])) 100 (fun i=>l.length-i.1) ⟨0,by omega,by simp⟩ (fF) ?_;rintro⟨i,hi,h0⟩;refine R0 ?_;refine aB fun K hK=>?_;refine aH (b:=decide ((i:Int)<l.length)) rfl (fun hb=>?_) (fun hb=>?_)
 ·
  have hlt:i<l.length:=by simpa using hb
  clear hb;refine aK ?_;refine T0 (hK _ _ _ ?_);clear hK K;refine aB fun K hK=>?_;refine aN ?_;have F:=aI @Int.natCast_nonneg (aI @Int.ofNat_lt (aI hlt (nM hlt)));refine RF ?_;refine R0 ?_;refine aH (b:=decide ((32768:Int)<l[i].length)) rfl (fun hb=>?_) (fun hb=>?_)
  · refine R0 ?_;refine aF (RT Tryz.results83 ?_);exact aJ [] (.int .i64 3) rfl (by rw[nD,if_neg hn0,if_neg (by omega),if_pos];simp only[List.any_eq_true,decide_eq_true_eq];exact⟨_,List.getElem_mem hlt,by simp at hb;omega⟩)
  refine aK ?_;refine T0 (hK _ _ _ ?_);clear hK K;refine aD (by kernel_rfl) ?_;refine TQ (fA i) ?_;have hb2:decide (32768<l[i].length)=false:=by simp at hb⊢;omega
  refine⟨⟨i+1,hlt,bM1 (p:=fun x=>decide (32768<x.length)) hlt hb2 h0⟩,fF,?_⟩;show l.length-(i+1)<l.length-i;omega
 refine bA (T3 ?_);clear hK K;refine AX (hK _ _ _ ?_);clear hK K;refine R0 ?_;refine aF (RT Tryz.results83 ?_);have hei:i=l.length:=by simp at hb;omega
 subst hei;rw[List.take_length]at h0;exact aJ [] (.int .i64 0) rfl (by rw[nD,if_neg hn0,if_neg (by omega),if_neg];simp only[List.any_eq_true,not_exists,not_and];intro x hx;simp[h0 x hx])
theorem cR0 (ls:List (List aG))(h0:ls.length<2^40)(h1: ∀l∈ls,l.length<2^40):eU Tryz.prog 48 [.slc (ls.map fun l=> .slc (l.map .str))] (fun u v=>u= .slc ((sW ls).map dG)∧v= .int .i64 (kY ls)):=by
 refine FW Tryz.func48 ?_;refine R0 ?_;refine aB fun K hK=>?_;refine R0 ?_;refine aH (b:=decide ((1000:Int)<ls.length)) rfl (fun hb=>?_) (fun hb=>?_)
 · refine R0 ?_;refine aF (RT Tryz.results48 ?_);have hE:=uS (ls:=ls) (by simp at hb;omega);refine aR [] (.slc []) (.int .i64 3) ?_ ⟨by rw[jM (by rw[hE];decide)];rfl,by rw[hE]⟩;simp[HV.close,HV.closeL,CV.denil,CV.denilL,HV.norm,HV.toC,HV.toCL]
 refine aK ?_;refine T0 (hK _ _ _ ?_);clear hK K;refine aB fun K hK=>?_;have hn:ls.length≤1000:=by simp at hb;omega
 clear hb;refine R0 ?_;refine aN ?_;refine bF (α:={i:Nat//i≤ls.length∧ ∀x∈ls.take i,okL x=true}) (fun i=>(fin [(0,.c (.slc (ls.map fun l=> .slc (l.map .str)))),(20,.c (.slc (ls.map fun l=> .slc (l.map .str)))),(21,.c (.int .i64 ls.length)),(22,.c (.int .i64 i.1))],fob [])) 100 (fun i=>ls.length-i.1) ⟨0,by omega,by simp⟩ (fF) ?_;rintro⟨i,hi,hk⟩;refine R0 ?_;refine aB fun K hK=>?_;refine aH (b:=decide ((i:Int)<ls.length)) rfl (fun hb=>?_) (fun hb=>?_)
 ·
  have hlt:i<ls.length:=by simpa using hb
  clear hb;have hl1:=h1 ls[i] (List.getElem_mem hlt);refine aK ?_;refine T0 (hK _ _ _ ?_);clear hK K;refine aB fun K hK=>?_;refine aN ?_;have F:=aI @Int.natCast_nonneg (aI @Int.ofNat_lt (aI hlt (nM hlt)));refine RF ?_;refine aB fun K hK=>Rg ?_;refine S0 ?_;refine HS rfl rfl fun K' hK'=>T5 ?_;refine C1 (aS5 ls[i] hl1) ?_;rintro u rfl;refine AX (hK' _ _ ?_);clear hK' K';refine S0 ?_;refine T2 (hK _ _ _ ?_);clear hK K;refine R0 ?_;refine aH (b:=nD ls[i] !=0) rfl (fun hb=>?_) (fun hb=>?_)
  · refine R0 ?_;refine aF (RT Tryz.results48 ?_);have hE:=sX hn hlt hk (by simpa[okL]using hb);refine aR [] (.slc []) (.int .i64 (nD ls[i])) ?_ ⟨by rw[jM (by rw[hE];simpa using hb)];rfl,by rw[hE]⟩;simp[HV.close,HV.closeL,CV.denil,CV.denilL,HV.norm,HV.toC,HV.toCL]
  refine aK ?_;refine T0 (hK _ _ _ ?_);clear hK K;refine aD (by kernel_rfl) ?_;refine TQ (fA i) ?_;refine⟨⟨i+1,hlt,?_⟩,fF,?_⟩
  ·
   intro x hx;rw[List.take_succ_eq_append_getElem hlt,List.mem_append,List.mem_singleton]at hx;rcases hx with hx|rfl
   · exact hk x hx
   simpa[okL]using hb
  show ls.length-(i+1)<ls.length-i;omega
 have hei:i=ls.length:=by simp at hb;omega
 subst hei;clear hb;rw[List.take_length]at hk;have hne: ∀l∈ls,l≠[]:=fun l hl=>((jH l).1 (hk l hl)).1;have hsd:=bE3 hk;have hdl:=sU hne;have hE:=aK0 hn hk;have hst: ∀j,sumD (ls.take j)≤sumD ls:=fun j=>aJ9 ls j;have hdt: ∀j,(gK (ls.take j)).length≤sumD ls:=fun j=>by rw[sU fun l hl=>hne l (List.mem_of_mem_take hl)];exact hst j
 refine bA (T3 ?_);clear hK K;refine AX (hK _ _ _ ?_);clear hK K;refine R0 ?_;refine aB fun K hK=>?_;refine R0 ?_;refine aN ?_;refine bF (α:={i:Nat//i≤ls.length}) (fun i=>(fin [(0,.c (.slc (ls.map fun l=> .slc (l.map .str)))),(7,.c (.int .i64 (sumD (ls.take i.1):Nat))),(32,.c (.slc (ls.map fun l=> .slc (l.map .str)))),(33,.c (.int .i64 ls.length)),(34,.c (.int .i64 i.1))],fob [])) 200 (fun i=>ls.length-i.1) ⟨0,by omega⟩ (fF) ?_;rintro⟨i,hi⟩;refine R0 ?_;refine aB fun K hK=>?_;refine aH (b:=decide ((i:Int)<ls.length)) rfl (fun hb=>?_) (fun hb=>?_)
 ·
  have hlt:i<ls.length:=by simpa using hb
  clear hb;have hst1:=bL4 hlt;have hst2:=hst (i+1);obtain⟨l,hl⟩: ∃l,l=ls[i]:=⟨_,rfl⟩;obtain⟨hl0,hl1,hl2⟩:=(jH l).1 (hk l (by rw[hl];exact List.getElem_mem hlt));have hln:nth (ls.map fun l=>CV.slc (l.map .str)) i= .slc (l.map .str):=by rw[bP hlt,hl]
  rw[←hl]at hst1;refine aK ?_;refine T0 (hK _ _ _ ?_);clear hK K;refine aB fun K hK=>?_;refine aN ?_;have F:=aI @Int.natCast_nonneg (aI @Int.ofNat_lt (aI hlt hln));refine RF ?_;refine R0 ?_;refine aN ?_;refine bF (α:={i:Nat//i≤l.length}) (fun k=>(fin [(0,.c (.slc (ls.map fun l=> .slc (l.map .str)))),(7,.c (.int .i64 (sumD (ls.take i)+iM (l.take k.1):Nat))),(32,.c (.slc (ls.map fun l=> .slc (l.map .str)))),(33,.c (.int .i64 ls.length)),(34,.c (.int .i64 i)),(38,.c (.slc (l.map .str))),(39,.c (.int .i64 l.length)),(40,.c (.int .i64 k.1))],fob [])) 300 (fun k=>l.length-k.1) ⟨0,by omega⟩ (fF) ?_;rintro⟨k,hk'⟩;refine R0 ?_;refine aB fun K hK=>?_;refine aH (b:=decide ((k:Int)<l.length)) rfl (fun hb=>?_) (fun hb=>?_)
  ·
   have hlk:k<l.length:=by simpa using hb
   clear hb;have hlt1:=bL3 hlk;have hlt2:=sV l (k+1);have hw2:=hl2 l[k] (List.getElem_mem hlk);refine aK ?_;refine T0 (hK _ _ _ ?_);clear hK K;refine aB fun K hK=>?_;refine aN ?_;have F:=aI @Int.natCast_nonneg (aI @Int.ofNat_lt (aI hlk (nM hlk)));refine RF ?_;refine Rg ?_;have F:=aI (IntWalk.i64_in _ (show-9223372036854775808≤((sizeW l[k]:Nat):Int)+1∧((sizeW l[k]:Nat):Int)+1≤9223372036854775807 by omega)) (IntWalk.i64_in _ (show-9223372036854775808≤((sumD (ls.take i)+iM (l.take k):Nat):Int)+(((sizeW l[k]:Nat):Int)+1)∧((sumD (ls.take i)+iM (l.take k):Nat):Int)+(((sizeW l[k]:Nat):Int)+1)≤9223372036854775807 by omega));iterate 2 refine SF ?_
   refine HS rfl rfl fun K' hK'=>T6 ?_;refine C1 (bF6 l[k] (by omega)) ?_;rintro u rfl;refine AX (hK' _ _ ?_);clear hK' K';iterate 3 refine SF ?_
   refine T2 (hK _ _ _ ?_);clear hK K;refine aD (by kernel_rfl) ?_;refine TQ (fA k) ?_;have he:((sumD (ls.take i)+iM (l.take k):Nat):Int)+(((sizeW l[k]:Nat):Int)+1)=((sumD (ls.take i)+iM (l.take (k+1)):Nat):Int):=by omega
   simp only[he];refine⟨⟨k+1,hlk⟩,fF,?_⟩;show l.length-(k+1)<l.length-k;omega
  have hek:k=l.length:=by simp at hb;omega
  subst hek;clear hb;refine bA (T3 ?_);clear hK K;refine AX (hK _ _ _ ?_);clear hK K;refine aD (by kernel_rfl) ?_;refine TQ (fA i) ?_;have he:((sumD (ls.take i)+iM (l.take l.length):Nat):Int)=((sumD (ls.take (i+1)):Nat):Int):=by rw[List.take_length];omega
  simp only[he];refine⟨⟨i+1,hlt⟩,fF,?_⟩;show ls.length-(i+1)<ls.length-i;omega
 have hei:i=ls.length:=by simp at hb;omega
 subst hei;clear hb;refine bA (T3 ?_);clear hK K;refine AX (hK _ _ _ ?_);clear hK K;refine aB fun K hK=>?_;have F:=@List.take_length.{0};refine RF ?_;refine aH (b:=decide ((262144:Int)<(sumD ls:Nat))) rfl (fun hb=>?_) (fun hb=>?_)
 · refine R0 ?_;refine aF (RT Tryz.results48 ?_);rw[if_pos (by rw[hdl];simp at hb;omega)]at hE;refine aR [] (.slc []) (.int .i64 3) ?_ ⟨by rw[jM (by rw[hE];decide)];rfl,by rw[hE]⟩;simp[HV.close,HV.closeL,CV.denil,CV.denilL,HV.norm,HV.toC,HV.toCL]
 refine aK ?_;refine T0 (hK _ _ _ ?_);clear hK K;have hle:sumD ls≤262144:=by simp at hb;omega
 have hz:((sumD ls:Nat):Int)≤140737488355328:=by omega
 clear hb;rw[if_neg (by rw[hdl];omega)]at hE;have hO:=aK1 hE;have F:=aI @Int.natCast_nonneg (aI hz (aI @Int.mul_one @List.take_length.{0}));refine RF ?_;refine aB fun K hK=>?_;refine R0 ?_;refine aN ?_;refine bF (α:={i:Nat//i≤ls.length}) (fun i=>(fin [(12,.own 216 (gK (ls.take i.1)).length),(55,.c (.slc (ls.map fun l=> .slc (l.map .str)))),(56,.c (.int .i64 ls.length)),(57,.c (.int .i64 i.1))],fob [(216,.row 5 1 ((gK (ls.take i.1)).map dG))])) 400 (fun i=>ls.length-i.1) ⟨0,by omega⟩ (fF) ?_;rintro⟨i,hi⟩;refine R0 ?_;refine aB fun K hK=>?_;refine aH (b:=decide ((i:Int)<ls.length)) rfl (fun hb=>?_) (fun hb=>?_)
 ·
  have hlt:i<ls.length:=by simpa using hb
  clear hb;have hdt1:=aE2 hlt;have hdt0:=hdt i;obtain⟨l,hl⟩: ∃l,l=ls[i]:=⟨_,rfl⟩;have hok:=hk l (by rw[hl];exact List.getElem_mem hlt);have hsl:=bE2 hok;obtain⟨hl0,hl1,hl2⟩:=(jH l).1 hok;have hln:nth (ls.map fun l=>CV.slc (l.map .str)) i= .slc (l.map .str):=by rw[bP hlt,hl]
  rw[←hl]at hdt1;refine aK ?_;refine T0 (hK _ _ _ ?_);clear hK K;refine aB fun K hK=>?_;refine aN ?_;have F:=aI @Int.natCast_nonneg (aI @Int.ofNat_lt (aI hlt hln));refine RF ?_;refine aB fun K hK=>?_;refine R0 ?_;refine aN ?_;refine bF (α:={i:Nat//i≤l.length}) (fun k=>(fin [(12,.own 216 (gK (ls.take i)++iL (l.take k.1)).length),(55,.c (.slc (ls.map fun l=> .slc (l.map .str)))),(56,.c (.int .i64 ls.length)),(57,.c (.int .i64 i)),(61,.c (.slc (l.map .str))),(62,.c (.int .i64 l.length)),(63,.c (.int .i64 k.1))],fob [(216,.row 5 1 ((gK (ls.take i)++iL (l.take k.1)).map dG))])) 500 (fun k=>l.length-k.1) ⟨0,by omega⟩ (fF) ?_;rintro⟨k,hk'⟩;have hsw:=bE1 (l.take k);have hst2:=sV l k;refine R0 ?_;refine aB fun K hK=>?_;refine aH (b:=decide ((k:Int)<l.length)) rfl (fun hb=>?_) (fun hb=>?_)
  ·
   have hlk:k<l.length:=by simpa using hb
   clear hb;have hw2:=hl2 l[k] (List.getElem_mem hlk);have hel:=sT l[k];have hsz:=eI l[k];have hsp:=aE0 l[k];have hpe:0<(jC l[k]).length:=by omega
   have htk:=aE1 hlk;have hbe:(gK (ls.take i)).length+(iL (l.take k)).length+(jC l[k]).length≤140737488355328:=by omega
   have hbe1:(gK (ls.take i)).length+(iL (l.take k)).length+1+(jC l[k]).length≤140737488355328:=by omega
   refine aK ?_;refine T0 (hK _ _ _ ?_);clear hK K;refine aB fun K hK=>?_;refine aN ?_;refine aB fun K hK=>Rg ?_;have F:=aI @Int.natCast_nonneg (aI @Int.ofNat_lt (aI hlk (nM hlk)));iterate 5 refine SF ?_
   refine T2 (hK _ _ _ ?_);clear hK K;refine aB fun K hK=>?_;refine R0 ?_;refine aH (b:=decide ((0:Int)<k)) rfl (fun hb=>?_) (fun hb=>?_)
   ·
    refine Rg ?_;have F:=aI @List.length_append.{0} @List.length_map.{0,0};iterate 4 refine SF ?_
    refine T2 (hK _ _ _ ?_);clear hK K;refine Rg ?_;have F:=aI @List.length_append.{0} (aI @List.length_map.{0,0} (aI hpe (aI hbe hbe1)));iterate 2 refine SF ?_
    refine HS rfl rfl fun K' hK'=>T6 ?_;refine C1 (bF7 l[k] (by omega)) ?_;rintro u rfl;refine AX (hK' _ _ ?_);clear hK' K';iterate 2 refine SF ?_
    refine T2 (hK _ _ _ ?_);clear hK K;refine aD (by kernel_rfl) ?_;refine TQ (fA k) ?_;have hk0:k≠0:=by simp at hb;omega
    refine⟨⟨k+1,hlk⟩,aM (by omega) ?_ ?_,?_⟩
    · rw[htk,if_neg hk0];simp[aW,upd_at,fin_at,HV.men];omega
    · rw[htk,if_neg hk0];simp only[List.map_append,←List.append_assoc];exact⟨rfl,by omega,trivial,trivial⟩
    show l.length-(k+1)<l.length-k;omega
   refine aK ?_;refine T0 (hK _ _ _ ?_);clear hK K;refine Rg ?_;have F:=aI @List.length_append.{0} (aI @List.length_map.{0,0} (aI hpe (aI hbe hbe1)));iterate 2 refine SF ?_
   refine HS rfl rfl fun K' hK'=>T6 ?_;refine C1 (bF7 l[k] (by omega)) ?_;rintro u rfl;refine AX (hK' _ _ ?_);clear hK' K';iterate 2 refine SF ?_
   refine T2 (hK _ _ _ ?_);clear hK K;refine aD (by kernel_rfl) ?_;refine TQ (fA k) ?_;have hk0:k=0:=by simp at hb;omega
   refine⟨⟨k+1,hlk⟩,aM (by omega) ?_ ?_,?_⟩
   · rw[htk,if_pos hk0];simp[aW,upd_at,fin_at,HV.men];omega
   · rw[htk,if_pos hk0,List.nil_append];simp only[List.map_append,←List.append_assoc];exact⟨rfl,by omega,trivial,trivial⟩
   show l.length-(k+1)<l.length-k;omega
  have hek:k=l.length:=by simp at hb;omega
  subst hek;clear hb;rw[List.take_length]at*;refine bA (T3 ?_);clear hK K;refine AX (hK _ _ _ ?_);clear hK K;refine Rg ?_;have F:=aI @List.length_append.{0} @List.length_map.{0,0};iterate 4 refine SF ?_
  refine T2 (hK _ _ _ ?_);clear hK K;refine aD (by kernel_rfl) ?_;refine TQ (fA i) ?_;refine⟨⟨i+1,hlt⟩,aM (by omega) ?_ ?_,?_⟩
  · rw[hdt1,aA7];simp[aW,upd_at,fin_at,HV.men];omega
  · rw[hdt1,aA7];simp only[List.map_append,←List.append_assoc];exact⟨rfl,by omega,trivial,trivial⟩
  show ls.length-(i+1)<ls.length-i;omega
 refine bA (T3 ?_);clear hK K;refine AX (hK _ _ _ ?_);clear hK K;refine R0 ?_;refine aF (RT Tryz.results48 ?_);have hei:i=ls.length:=by simp at hb;omega
 subst hei;refine aR [216] (.slc ((gK ls).map dG)) (.int .i64 0) ?_ ⟨by rw[hO],by rw[hE]⟩;rw[List.take_length];simp[HV.close,fob_at,upd_at,HV.norm,HV.toC,HV.closeL,HV.toCL,List.take_of_length_le,CV.denil,bU]
end Go.Proofs.YthedbjfipmkpiaaGreatDoor
