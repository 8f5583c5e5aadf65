/- Part of a proof: walks of functions of the program, by contracts, and the rules they use. By an AI agent. -/
import Derived.Shelf.LaysM
import Derived.Test.YthedbjfipmkpiaaGreatDoorHdSb
import Derived.Shelf.Strings.BuilderK
import Derived.Test.YthedbjfipmkpiaaGreatDoorPl03
import Derived.Test.YthedbjfipmkpiaaGreatDoorHdU5
import Derived.Test.YthedbjfipmkpiaaGreatDoorChecked
import Derived.WalkKit
import Derived.BigCall
set_option linter.unusedSimpArgs false
set_option linter.unusedVariables false
set_option linter.defProp false
namespace Go.Proofs.YthedbjfipmkpiaaGreatDoor
open Go Go.Hl Go.Pl Go.RowKit Go.Shelf
set_option maxRecDepth 100000
def aZ3 :Go.Shelf.Ren:=⟨fun|169=>109|n=>n,fun|70=>154|9=>9|0=>0|72=>156|37=>52|127=>179|3=>3|5=>5|n=>n,fun|n=>n⟩
theorem bs0 :Go.Proofs.Lays.n169 Tryz.prog aZ3:={
  mixed:=by kernel_rfl
  f169:=Tryz.func109.trans (congrArg some (by kernel_rfl))
  t0:=Tryz.underlying0
  a0:=Tryz.isAgg0
  z0:=Tryz.sizeOf0
  v0:=Tryz.zeroValue0
  t3:=Tryz.underlying3
  a3:=Tryz.isAgg3
  z3:=Tryz.sizeOf3
  v3:=Tryz.zeroValue3
  t9:=Tryz.underlying9
  a9:=Tryz.isAgg9
  z9:=Tryz.sizeOf9
  v9:=Tryz.zeroValue9
  t37:=Tryz.underlying52
  a37:=Tryz.isAgg52
  z37:=Tryz.sizeOf52
  v37:=Tryz.zeroValue52
  t70:=Tryz.underlying154
  a70:=Tryz.isAgg154
  z70:=Tryz.sizeOf154
  v70:=Tryz.zeroValue154
  t72:=Tryz.underlying156
  a72:=Tryz.isAgg156
  z72:=Tryz.sizeOf156
  v72:=Tryz.zeroValue156
  t127:=Tryz.underlying179
  a127:=Tryz.isAgg179
  z127:=Tryz.sizeOf179
  v127:=Tryz.zeroValue179}
theorem bsx0 :Builder.Extra Tryz.prog aZ3:={
  sizeBuilder:=by kernel_rfl
  liesBuilder:=by kernel_rfl
  t5:=Tryz.underlying5
  a5:=Tryz.isAgg5
  z5:=Tryz.sizeOf5
  v5:=Tryz.zeroValue5
  infoByte:=by kernel_rfl
  cellsByte:=by kernel_rfl
  sizeByte:=by kernel_rfl
  neB5:=by decide}
set_option maxHeartbeats 1000000 in
theorem cA4 (b:Nat)(w:World)(h0:w.cell? ⟨b,0,none⟩=some (.pointer (some ⟨b,0,none⟩))):
    Calls Tryz.prog 134 #[.pointer (some ⟨b,0,none⟩)] w fun e w'=>e= .returned (.tuple #[])∧w'=w:=by
  obtain⟨j,hj,_⟩:=Option.map_eq_some_iff.1 bsx0.sizeBuilder
  go_enter Tryz.func134,Tryz.ntmps134
  go_wp2
  rw[Lib.run_neq_ptr_same w _ Tryz.underlying154 hj]
  go_wp2
  go_end0
  exact⟨rfl,rfl⟩
set_option maxHeartbeats 1000000 in
theorem bS5 (b:Nat)(w:World)(h0:w.cell? ⟨b,0,none⟩=some (.pointer none))(hsh:w.shape? b=some (156,2))(hfz:w.frozen? ⟨b,0,none⟩=false):
    Calls Tryz.prog 134 #[.pointer (some ⟨b,0,none⟩)] w fun e w'=>e= .returned (.tuple #[])∧w'=w.setCell ⟨b,0,none⟩ (.pointer (some ⟨b,0,none⟩)):=by
  obtain⟨j,hj,hjs⟩:=Option.map_eq_some_iff.1 bsx0.sizeBuilder
  go_enter Tryz.func134,Tryz.ntmps134
  go_wp2
  rw[Lib.run_to_unsafe w ⟨b,0,none⟩ Tryz.underlying154 Tryz.underlying196 hj (by rw[hjs];decide) hsh (Nat.zero_lt_succ 1)];simp only[Result.andThen];rw[Oper.upon_value]
  go_wp2
  rw[run_callFunc_extern Tryz.func160 (by kernel_rfl) (by kernel_rfl) (by kernel_rfl) (e:=Extern.AbiNoEscape.same) (by kernel_rfl)];rw[Lib.run_noEscape];simp only[Result.andThen];rw[Oper.upon_value]
  go_wp2
  rw[Lib.run_from_unsafe w ⟨b,0,none⟩ Tryz.underlying196 Tryz.underlying154 hj hsh bsx0.liesBuilder];simp only[Result.andThen];rw[Oper.upon_value]
  go_wp2
  go_end0
  exact⟨rfl,rfl⟩
theorem cQ9 (B b:Nat)(bs:List Value)(w:World)(h:Lib.IsBuilderF 156 5 B b bs w):
    Calls Tryz.prog 134 #[.pointer (some ⟨b,0,none⟩)] w fun e w'=>e= .returned (.tuple #[])∧(Lib.BuilderAtF 156 5 B b (.pointer (some ⟨b,0,none⟩)) bs w'∧Below B w w'∧Lib.OthersKept 5 (some b) w w'):=by
  rcases h with h|h
  · refine(bS5 b w h.cell0 h.shape h.frozen0).mono ?_
    rintro e w' ⟨rfl,rfl⟩;exact⟨rfl,h.used _,(Below.refl B w).setCell (p:=⟨b,0,none⟩) h.1 _,(Lib.OthersKept.refl _ _ w).setCell ⟨b,0,none⟩ rfl _⟩
  · refine(cA4 b w h.cell0).mono ?_
    rintro e w' ⟨rfl,rfl⟩;exact⟨rfl,h,Below.refl B _,Lib.OthersKept.refl _ _ _⟩
set_option maxHeartbeats 2000000 in
theorem cN8 (B b:Nat)(bs:List Value)(c:Int)(w:World)(h:Lib.IsBuilderF 156 5 B b bs w)(hlen:bs.length+1≤140737488355328)(hBw:B≤w.heap.size):
    Calls Tryz.prog 108 #[.pointer (some ⟨b,0,none⟩),.int .u8 c] w fun e w'=>e= .returned .nilIface∧(Lib.BuilderAtF 156 5 B b (.pointer (some ⟨b,0,none⟩)) (bs++[.int .u8 c]) w'∧Below B w w'∧Lib.OthersKept 5 (some b) w w'):=by
  obtain⟨i0,hi,hz0,hz1,hz2⟩:=info_parts bsx0.infoByte
  go_enter Tryz.func108,Tryz.ntmps108
  go_wp2_with (go_at_call 134;refine(cQ9 B b bs _ h).mono ?_)
  rintro e w1 ⟨rfl,h1,hb1,hk1⟩;obtain⟨hB,v,hbk,hown,hne⟩:=h1;have c0:w1.cell? ⟨b,0,none⟩=some (.pointer (some ⟨b,0,none⟩)):=by rw[Lib.cell_of_heap hbk];rfl
  have c1:w1.cell? ⟨b,1,none⟩=some v:=by rw[Lib.cell_of_heap hbk];rfl
  go_wp2_with (at_builtin;refine wpList_append_ownF _ rfl _ _ 52 rfl B 5 i0 (.int .u8 0) 1 1 Tryz.underlying52 hi hz0 hz1 hz2 rfl (by decide) _ _ _ rfl (hown.alloc _) ⟨w1.heap.size,0,none⟩ 1 1 [.int .u8 c] rfl rfl ?c1 ?c2 ?c3 ?c4 ?c5 ?_)
  case c1=>
    intro j u hj
    match j,hj with
    |0,hj=>simp at hj;subst hj;simp[Addr.add]
  case c2=>intro u hu;simp at hu;subst hu;rfl
  case c3=>unfold maxLen;omega
  case c4=>omega
  case c5=>have:=hb1.size;simp;omega
  intro v' w2 hown' hgrow _;have hlt:b<w1.heap.size:=by
    rcases Nat.lt_or_ge b w1.heap.size with h'|h'
    · exact h'
    · simp[Array.getElem?_eq_none h']at hbk
  have hb2:w2.heap[b]? =some (.cells #[.pointer (some ⟨b,0,none⟩),v] 156 (0,0)):=by
    rw[hgrow.block b (by simp;omega) (fun e=>hne e.symm),Lib.alloc_old w1 _ b hlt];exact hbk
  have d0:w2.cell? ⟨b,0,none⟩=some (.pointer (some ⟨b,0,none⟩)):=by rw[Lib.cell_of_heap hb2];rfl
  have d1:w2.cell? ⟨b,1,none⟩=some v:=by rw[Lib.cell_of_heap hb2];rfl
  have f1:w2.frozen? ⟨b,1,none⟩=false:=Lib.frozen_of_heap hb2 1;obtain⟨g,cap,rfl⟩: ∃g cap,v'= .slice (some ⟨g,0,none⟩) (bs.length+1) cap:=by
    rcases hown'.2 with⟨_,h0⟩|⟨g,cap,cur,fz,hv,_⟩
    · omega
    · exact⟨g,cap,hv⟩
  go_wp2
  go_ret
  refine⟨rfl,?_,?_,((hk1.alloc _).grown hgrow (Lib.ownsRowF_kind (hown.alloc _))).setCell ⟨b,1,none⟩ rfl _⟩
  · exact Lib.BuilderAtF.put (T:=156) (e:=5) hB hb2 (bs':=bs++[.int .u8 c]) (by simpa using hown') (by decide)
  · exact((hb1.alloc (by have:=hb1.size;omega) _).grown hgrow (by have:=hb1.size;simp;omega) (fun k hk=>(hown.lt k hk).1)).setCell (p:=⟨b,1,none⟩) hB _
set_option maxHeartbeats 4000000 in
theorem bS6 (bs:List UInt8)(h0:0<bs.length)(hl:bs.length<2^40)(b off c:Nat)(w:World)(hc: ∀j,j<bs.length→w.cell? ⟨b,off+j,none⟩=some (.int .u8 (bs.getD j 0).toNat)):
    Calls Tryz.prog 80 #[.slice (some ⟨b,off,none⟩) bs.length c] w fun e w'=>e= .returned (.string ⟨(iA bs).toArray⟩)∧Below w.heap.size w w':=by
  have hb:b<w.heap.size:=by
    rcases Nat.lt_or_ge b w.heap.size with h'|h'
    · exact h'
    · have:=hc 0 h0
      simp[World.cell?,Array.getElem?_eq_none h']at this
  go_enter Tryz.func80,Tryz.ntmps80
  go_wp2
  go_loopw [8] (fun vi wr=> ∃(i:Nat),vi= .int .i64 i∧i≤bs.length∧Lib.IsBuilderF 156 5 w.heap.size w.heap.size (Lib.byteCells (iA (bs.take i))) wr∧Below w.heap.size w wr) (fun vi _=>bs.length-(intOf vi).toNat)
  case atStart=>
    exact⟨0,rfl,by omega,(Lib.IsBuilderF.of (Lib.fresh_isBuilder 156 5 w)),(Below.refl _ w).alloc (Nat.le_refl _) _⟩
  case round=>
    obtain⟨i,rfl,hi,hI,hB⟩:=hrel;have hsz:w.heap.size≤wr.heap.size:=hB.size;by_cases hlt:i<bs.length
    · have hcell:wr.cell? ⟨b,off+i,none⟩=some (.int .u8 (bs[i].toNat)):=by
        have:=hc i hlt;simp only[World.cell?,hB.block b hb]at this⊢;simpa[hlt]using this
      have hx0:=bs[i].toNat_lt;have hx1:0≤(bs[i].toNat:Int)/16∧(bs[i].toNat:Int)/16<16:=by omega
      have hx2:0≤(bs[i].toNat:Int)%16∧(bs[i].toNat:Int)%16<16:=by omega
      have hlen:(Lib.byteCells (iA (bs.take i))).length+1≤140737488355328:=by rw[Lib.byteCells_length,lB,List.length_take];omega
      go_wp2_with (go_at_call 108;refine(cN8 w.heap.size w.heap.size _ _ _ hI hlen hsz).mono ?_)
      rintro e W1 ⟨rfl,h1,b1,k1⟩;have hsz1:w.heap.size≤W1.heap.size:=by have:=b1.size;omega
      have e1: ∀(l:List UInt8) (x:UInt8),Lib.byteCells l++[Value.int .u8 x.toNat]=Lib.byteCells (l++[x]):=fun l x=>by rw[Lib.byteCells_append];rfl
      rw[e1]at h1;have hlen1: ∀x:UInt8,(Lib.byteCells (iA (bs.take i)++[x])).length+1≤140737488355328:=fun x=>by rw[Lib.byteCells_length,List.length_append,lB,List.length_take];simp;omega
      go_wp2_with (go_at_call 108;refine(cN8 w.heap.size w.heap.size _ _ _ (Or.inr h1) (hlen1 _) hsz1).mono ?_)
      rintro e W2 ⟨rfl,h2,b2,k2⟩;rw[e1]at h2
      go_wp2
      go_roundw
      case rel=>
        refine⟨i+1,by simp,hlt,Or.inr ?_,(hB.trans b1).trans b2⟩;rw[bF4 hlt,bO9,mA,mA];have g1: ∀(n:Nat) (h:n<16),(([48,49,50,51,52,53,54,55,56,57,97,98,99,100,101,102]:List UInt8).getD n 0)=(⟨#[48,49,50,51,52,53,54,55,56,57,97,98,99,100,101,102]⟩:ByteArray)[n]'h:=by decide
        rw[g1 _ (by omega),g1 _ (by omega)];simpa using h2
      case measure=>
        simp[intOf];omega
    · go_wp2_with (go_at_call 109;refine(Any.Builder_String_any_k bs0 bsx0 w.heap.size w.heap.size (iA (bs.take i)) _ hI (by omega)).mono ?_)
      rintro e W1 ⟨rfl,_,b1,_⟩
      go_wp2
      go_ret
      have:i=bs.length:=by omega
      subst this;rw[List.take_length];exact⟨rfl,hB.trans b1⟩
theorem cI6 (bs:List UInt8)(h0:0<bs.length)(hl:bs.length<2^40):dB Tryz.prog 80 [.slc (bs.map u8)] (fun v=>v= .str (iA bs)):=by
  have hok:eE Tryz.prog 80=true:=by kernel_rfl
  refine⟨qD hok,fun w ρ X xs hS hA hX=>Does.of hok ?_⟩;simp only[List.map_cons,List.map_nil,bP,RepHV]at hA;obtain⟨x,zs,rfl,hx,rfl⟩:=hA;have h1:=RepV.single hx rfl;simp only[RepC,List.cons.injEq,and_true]at h1;obtain⟨a,cap,ys,sz,rfl,h2,_,h4,h5,h6⟩:=h1;have hys:ys=bs.map fun b=>Value.int .u8 b.toNat:=by
    have key: ∀(bs:List UInt8) (xs:List Value),RepL w (Owned ρ X) (bs.map u8) xs→xs=bs.map fun b=>Value.int .u8 b.toNat:=by
      intro bs;induction bs with
      |nil=>intro xs h;simpa[RepL]using h
      |cons b bs ih=>
        intro xs h;simp only[List.map_cons,RepL,u8,RepC]at h;obtain⟨c1,c2,rfl,rfl,h7⟩:=h;rw[ih c2 h7];rfl
    exact key bs ys h2
  subst hys;simp only[List.length_map];cases a with
  |none=>
    have hz:=h5 rfl;simp only[List.length_map]at h4;omega
  |some ad=>
    have hr:=(h6 ad rfl).1;have hspot:ad.spot=none:=by
      have:=hr 0 (Value.int .u8 bs[0].toNat) (by simp[h0]);simp only[World.cell?]at this;split at this
      · split at this
        · cases this
        · rename_i hh;simpa[Addr.add]using hh
      · cases this
    obtain⟨b,off,spot⟩:=ad;simp only at hspot;subst hspot;refine(bS6 bs h0 hl b off cap w fun j hj=>?_).mono ?_
    · have:=hr j (Value.int .u8 bs[j].toNat) (by simp[hj])
      have e:(⟨b,off,none⟩:Addr).add j=⟨b,off+j,none⟩:=by
        by_cases h0:j=0
        · subst h0;rfl
        · simp[Addr.add,h0]
      rw[e]at this;rw[this];simp[hj]
    · rintro ex w' ⟨rfl,hb⟩
      have hs2:Stay2 w (Hl.Own ρ) w' (Hl.Own ρ):=⟨fun g hg _=>hb.block g hg,fun _ h=> .inl h,hb.size,hb.os,hb.tape,hb.output⟩;refine⟨_,_,ρ,_,rfl,⟨_,rfl,rfl,rfl⟩,⟨?_,⟨fun i o ho=>by simp[cX]at ho,hS.none,hS.apart,hS.xb⟩,by simp[HV.men],fun i o ho=>by simp[cX]at ho,hs2,Moves.refl _ _⟩⟩;refine bS ?_ rfl rfl;simp[RepC]
end Go.Proofs.YthedbjfipmkpiaaGreatDoor
namespace Go.Proofs.YthedbjfipmkpiaaGreatDoor
open Go Go.Hl Go.Pl
set_option maxRecDepth 10000
set_option maxHeartbeats 2000000
theorem uQ (d:Dig):dB Tryz.prog 45 [dg d] (fun v=>v= .str (iN d)):=by
 refine bD Tryz.func45 rfl (by kernel_rfl) (bH _) (Nat.le_of_ble_eq_true rfl) ?_;refine aE fun K hK=>aD (by kernel_rfl) ?_;simp (maxSteps:=4000000) only[↓sP,sA,tyS,simprocAttr];repeat refine AI ?_
 refine hK _ _ _ ?_;clear hK K;refine bD3 1 0 rfl rfl ?_;have hle:7+(iA d.1).length≤9223372036854775807:=by rw[lB,d.2];omega
 refine aE fun K hK=>aD (by kernel_rfl) ?_;simp only[sR,simprocAttr];refine aC (g:=none) rfl rfl fun K' hK'=>?_;simp (maxSteps:=4000000) only[sH,↓sP,sA,tyS,simprocAttr,bN1,iJ,d.2,denilL_u8,List.drop_zero,aE9,hle];repeat refine AI ?_
 refine hK' _ _ ?_;clear hK' K';refine aC (g:=none) rfl rfl fun K' hK'=>?_;simp (maxSteps:=4000000) only[sH,↓sP,sA,tyS,simprocAttr,bN1,iJ,d.2,denilL_u8,List.drop_zero,aE9,hle];refine aX (args:=[_]) (cI6 d.1 (by rw[d.2];omega) (by rw[d.2];omega)) ⟨rfl,rfl,rfl,rfl⟩ ?_;rintro u rfl;repeat refine AI ?_
 refine hK' _ _ ?_;clear hK' K';iterate 2
  (refine aC (g:=none) rfl rfl fun K' hK'=>?_;simp only[sH,↓sP,sA,tyS,simprocAttr,bN1,iJ,d.2,denilL_u8,List.drop_zero,aE9,hle];(repeat refine AI ?_);refine hK' _ _ ?_;clear hK' K')
 simp only[sE,↓reduceIte,simprocAttr];repeat refine AI ?_
 refine hK _ _ _ ?_;clear hK K;refine aJ ?_;simp (maxSteps:=4000000) only[aT,Tryz.results45,aR,aS,aQ,↓sP,sA,tyS,simprocAttr];exact aW [] (.str _) rfl rfl
end Go.Proofs.YthedbjfipmkpiaaGreatDoor
