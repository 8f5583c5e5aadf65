/- Part of a proof: walks of functions of the program, by contracts, and the rules they use. By an AI agent. -/
import Derived.Test.YthedbjfipmkpiaaGreatDoorHdUl
import Derived.Shelf.SlSortCmp.NoneTotal
import Derived.Ground.SlsfProg
import Derived.Test.YthedbjfipmkpiaaGreatDoorHdSb
import Derived.Test.YthedbjfipmkpiaaGreatDoorHdOr
import Derived.Test.YthedbjfipmkpiaaGreatDoorHlTlaw
import Derived.Test.YthedbjfipmkpiaaGreatDoorPl31h
import Derived.Test.YthedbjfipmkpiaaGreatDoorHdU6
import Derived.Test.YthedbjfipmkpiaaGreatDoorHdTf
import Derived.Test.YthedbjfipmkpiaaGreatDoorPl11c
import Derived.Test.YthedbjfipmkpiaaGreatDoorHdUp
import Derived.Test.YthedbjfipmkpiaaGreatDoorPl18e
import Derived.Test.YthedbjfipmkpiaaGreatDoorHdW9
import Derived.Test.YthedbjfipmkpiaaGreatDoorRows
set_option linter.unusedSimpArgs false
set_option linter.unusedVariables false
set_option linter.defProp false
namespace Go.Hl
open Go Go.RowKit Go.Sort Go.Pl Go.Proofs
def bA9 (P:Program)(lt:Dig→Dig→Bool)(f g:FuncId)(e:TypeId)(l:List Dig):Prop:=
 HFn P f [.own 0 l.length,.c (.fn g)] 1 (fob [(0,.row e 32 (l.map dg))]) (fun r ob'=>r= .tup []∧ ∃l':List Dig,l'.Perm l∧l'.Pairwise (fun a b=>lt b a=false)∧ob'=fob [(0,.row e 32 (l'.map dg))])
variable {l:List Dig}{e:TypeId}{lt:Dig→Dig→Bool}{P:Program}
theorem bO9 {f g:FuncId}(hok:eL P f=true)
  (hc: ∀(blk cap:Nat) (w:World),HoldsK eK 32 w blk 0 l.toArray→blk<w.heap.size→Calls P f #[.slice (some ⟨blk,0,none⟩) l.length cap,.func (.func g) #[] #[]] w fun x w'=>x= .returned (.tuple #[])∧ ∃(d':Array Dig) (n:Nat) (os:Array Obj),PermIn 0 l.length l.toArray d'∧SortedIn lt 0 l.length d'∧w'=sortWorldK eK 32 w blk 0 n d' os)
  (hc0: ∀(cap:Nat) (w:World),Calls P f #[.slice none 0 cap,.func (.func g) #[] #[]] w fun x w'=>x= .returned (.tuple #[])∧w'=w):bA9 P lt f g e l:=by
 refine⟨qY hok,fun w ρ X xs hS hA hX=>Does.of hok ?_⟩;obtain⟨h,ys,hρ,hL,hcs,how⟩:=hS.objs 0 (.row e 32 (l.map dg)) rfl;have hys:=mE.1 hL;subst hys;have hlen:hlen h=l.length:=by have:=ownsRow_size how;simpa using this
 have hargs:xs=[h,.func (.func g) #[] #[]]:=by
  rw[bF]at hA;obtain⟨y,zs,rfl,hy,hz⟩:=hA;rw[bF]at hz;obtain⟨y2,zs2,rfl,hy2',hz2⟩:=hz;simp only[RepHV]at hz2;subst hz2;obtain⟨hy1,hy2⟩:=hy;have hag:Value.isAgg' y=false:=by rw[←hy2];rfl
  rw[cells_single hag]at hy1;simp only[RepH,List.cons.injEq,and_true]at hy1;obtain⟨x,rfl,_,hx⟩:=hy1;obtain⟨hz1,hz2⟩:=hy2';have hag2:Value.isAgg' y2=false:=by rw[←hz2];rfl
  rw[cells_single hag2]at hz1;simp only[RepH,RepC,List.cons.injEq,and_true]at hz1;rw[(hx h hρ).2 hlen,hz1]
 subst hargs;have hrt: ∀w':World,RepV w' ρ (Owned ρ X) (.tup []) (.tuple #[]):=fun w'=>by
  refine⟨?_,rfl⟩;simp only[RepH];exact⟨[],rfl,by simp[RepHV]⟩
 rcases how.2 with⟨rfl,hz⟩|⟨g',cap,cur,rfl,hg0,hg,hcap,hmax,hcsz,htake⟩
 ·
  have:l=[]:=List.eq_nil_of_length_eq_zero (by simpa using hz);subst this;refine(hc0 0 w).mono ?_;rintro ex w' ⟨rfl,rfl⟩;refine⟨.tup [],_,ρ,.tuple #[],rfl,⟨rfl,[],List.Perm.refl _,List.Pairwise.nil,rfl⟩,⟨hrt _,by simpa using hS,by simp[HV.men,HV.menL],fun i o ho=>?_,Stay2.refl _ _,Moves.refl _ _⟩⟩;simp only[fob_at,fob_nil]at ho;split at ho
  · rename_i e0;subst e0;cases ho;exact⟨by omega,trivial⟩
  · cases ho
 ·
  simp only[List.length_map]at hcap hcsz htake;have hgs:g'<w.heap.size:=(Array.getElem?_eq_some_iff.1 hg).1;have hH:HoldsK eK 32 w g' 0 l.toArray:=fun j hj=>by
   have hj':j<l.length*32:=by simpa using hj
   refine⟨?_,by simp[World.frozen?,hg]⟩;have e1:cur.toList[j]? =some (flatK eK 32 l.toArray)[j]! :=by
    have e0:(l.flatMap eK)[j]? =some (flatK eK 32 l.toArray)[j]! :=by
     rw[←zI,Array.getElem?_toList,Array.getElem?_eq_getElem (by simpa using hj'),getElem!_pos _ j (by simpa using hj')]
    have:(cur.toList.take (l.length*32))[j]? =(l.flatMap eK)[j]? :=by rw[htake]
    rwa [List.getElem?_take,if_pos hj',e0]at this
   rw[Array.getElem?_toList]at e1;simp only[World.cell?,hg,Nat.zero_add,e1,Option.isSome_none,Bool.false_eq_true,if_false,id]
  simp only[List.length_map];refine(hc g' cap w hH hgs).mono ?_;rintro ex w' ⟨rfl,d',n,os,⟨hps,-,hpp⟩,hso,rfl⟩;obtain⟨S,rfl⟩: ∃S:List Dig,d'=S.toArray:=⟨d'.toList,by simp⟩;have hSl:S.length=l.length:=by simpa using hps
  have hperm:S.Perm l:=by
   have h1:(S.toArray.extract 0 l.length).toList=S:=by rw[←hSl];simp
   have h2:(l.toArray.extract 0 l.length).toList=l:=by simp
   rwa [h1,h2]at hpp
  have hsrt:S.Pairwise (fun a b=>lt b a=false):=List.pairwise_iff_getElem.2 fun i j hi hj hij=>by
   have h1:=hso i j (Nat.zero_le _) hij (by omega);simpa[getElem!_pos,hi,hj]using h1
  have hother: ∀b,b<w.heap.size→b≠g'→(sortWorldK eK 32 w g' 0 n S.toArray os).heap[b]? =w.heap[b]? :=fun b hb hne=>by
   simp only[sortWorldK,putRowK,grow,putRow,mapBlock,Sort.ahead];rw[Array.getElem?_append_left (by simpa using hb),Array.getElem?_modify,if_neg (fun h=>hne h.symm)]
  have hthis:(sortWorldK eK 32 w g' 0 n S.toArray os).heap[g']? =some (.cells (putCells id 0 (flatK eK 32 S.toArray) cur) e (0,0)):=by
   simp only[sortWorldK,putRowK,grow,putRow,mapBlock,Sort.ahead];rw[Array.getElem?_append_left (by simpa using hgs),Array.getElem?_modify,if_pos rfl,hg];rfl
  have hs2:Stay2 w (Own ρ) (sortWorldK eK 32 w g' 0 n S.toArray os) (Own ρ):=⟨fun b hb hno=>hother b hb (fun e'=>hno ⟨0,_,hρ,by rw[e'];rfl⟩),fun _ h=> .inl h,by simp[sortWorldK,putRowK,grow,putRow,mapBlock,Sort.ahead],rfl,rfl,rfl⟩;refine⟨.tup [],_,ρ,.tuple #[],rfl,⟨rfl,S,hperm,hsrt,rfl⟩,⟨hrt _,⟨fun i o ho=>?_,fun i hi=>hS.none i ?_,hS.apart,hS.xb⟩,by simp[HV.men,HV.menL],fun i o ho=>?_,hs2,Moves.refl _ _⟩⟩
  ·
   simp only[fob_at,fob_nil]at ho;split at ho
   ·
    rename_i e0;subst e0;cases ho;refine⟨_,S.flatMap eK,hρ,mE.2 rfl,fun v hv=>?_,by rw[sV,List.length_map],.inr ⟨g',cap,putCells id 0 (flatK eK 32 S.toArray) cur,by simp[hSl],Nat.zero_le _,hthis,by simp[hSl];exact hcap,hmax,?_,?_⟩⟩
    · obtain⟨s,_,rfl⟩:=List.mem_map.1 hv;exact dg_cells s
    · rw[←hcsz];simp[putCells]
    · have h1:=zJ (flatK eK 32 S.toArray) cur (by rw[size_flatK,hcsz];simp only[List.size_toArray,hSl];exact Nat.mul_le_mul_right _ hcap);rw[zI,size_flatK]at h1;simpa using h1
   · cases ho
  ·
   simp only[fob_at,fob_nil]at hi⊢;split at hi
   · cases hi
   · rename_i hne;rw[if_neg hne]
  ·
   simp only[fob_at,fob_nil]at ho;split at ho
   · rename_i e0;subst e0;cases ho;exact⟨by omega,trivial⟩
   · cases ho
theorem bB0 {av:List Nat}{f g:FuncId}{ob:Ob}{nid id n:Nat}{K:HV→Ob→Prop}(h:bA9 P lt f g e l)(hid:ob id=some (.row e 32 (l.map dg)))(hn:n=l.length)(hav:id∉av)
  (hfree:Free4 ob nid) (hK: ∀l':List Dig,l'.Perm l→l'.Pairwise (fun a b=>lt b a=false)→K (.tup []) (upd ob id (some (.row e 32 (l'.map dg))))):HCall P av f [.own id n,.c (.fn g)] ob nid K:=by
 have h0:sub [id] nid 0=id:=rfl;subst hn;refine⟨[id],_,_,_,h,aC2 (by simp[HV.menL,HV.men]),⟨by simp,by simpa using hav⟩,by simp only[HV.renL,HV.ren,h0],fun j o hj=>?_,fun r lob' hR _=>?_⟩
 ·
  simp only[fob_at,fob_nil]at hj;split at hj
  · rename_i e0;subst e0;cases hj;simpa[HO.ren]using hid
  · cases hj
 · obtain⟨rfl,l',hp,hq,rfl⟩:=hR;rw[aO2 hfree];exact hK l' hp hq
end Go.Hl
namespace Go.Proofs.YthedbjfipmkpiaaGreatDoor
open Go.RowKit Go.Sort Go.Shelf
def aU4 :Go.Shelf.Ren:=⟨fun|6=>54|15=>89|14=>88|28=>120|29=>121|20=>112|21=>113|22=>114|23=>115|24=>116|25=>117|26=>118|27=>119|46=>139|47=>140|48=>141|49=>142|50=>143|57=>165|n=>n,fun|22=>39|24=>44|25=>105|3=>3|39=>72|0=>0|53=>168|55=>135|4=>4|46=>162|45=>161|50=>81|5=>5|9=>9|66=>184|70=>188|76=>202|77=>203|n=>n,fun|n=>n⟩
theorem bG5 :Go.Proofs.SlLaysF0.n6 Tryz.prog aU4:={
  mixed:=by kernel_rfl
  f6:=⟨Tryz.f54.name,by decide,Tryz.func54.trans (congrArg some (by kernel_rfl))⟩
  f14:=⟨Tryz.f88.name,by decide,Tryz.func88.trans (congrArg some (by kernel_rfl))⟩
  f15:=Tryz.func89.trans (congrArg some (by kernel_rfl))
  f20:=⟨Tryz.f112.name,by decide,Tryz.func112.trans (congrArg some (by kernel_rfl))⟩
  f21:=⟨Tryz.f113.name,by decide,Tryz.func113.trans (congrArg some (by kernel_rfl))⟩
  f22:=⟨Tryz.f114.name,by decide,Tryz.func114.trans (congrArg some (by kernel_rfl))⟩
  f23:=⟨Tryz.f115.name,by decide,Tryz.func115.trans (congrArg some (by kernel_rfl))⟩
  f24:=⟨Tryz.f116.name,by decide,Tryz.func116.trans (congrArg some (by kernel_rfl))⟩
  f25:=⟨Tryz.f117.name,by decide,Tryz.func117.trans (congrArg some (by kernel_rfl))⟩
  f26:=⟨Tryz.f118.name,by decide,Tryz.func118.trans (congrArg some (by kernel_rfl))⟩
  f27:=⟨Tryz.f119.name,by decide,Tryz.func119.trans (congrArg some (by kernel_rfl))⟩
  f28:=Tryz.func120.trans (congrArg some (by kernel_rfl))
  f29:=Tryz.func121.trans (congrArg some (by kernel_rfl))
  f46:=⟨Tryz.f139.name,by decide,Tryz.func139.trans (congrArg some (by kernel_rfl))⟩
  f47:=Tryz.func140.trans (congrArg some (by kernel_rfl))
  f48:=Tryz.func141.trans (congrArg some (by kernel_rfl))
  f49:=⟨Tryz.f142.name,by decide,Tryz.func142.trans (congrArg some (by kernel_rfl))⟩
  f50:=⟨Tryz.f143.name,by decide,Tryz.func143.trans (congrArg some (by kernel_rfl))⟩
  f57:=⟨Tryz.f165.name,by decide,Tryz.func165.trans (congrArg some (by kernel_rfl))⟩
  t0:=Tryz.underlying0
  a0:=Tryz.isAgg0
  z0:=Tryz.sizeOf0
  v0:=Tryz.zeroValue0
  t3:=Tryz.underlying3
  a3:=Tryz.isAgg3
  z3:=Tryz.sizeOf3
  v3:=Tryz.zeroValue3
  t4:=Tryz.underlying4
  a4:=Tryz.isAgg4
  z4:=Tryz.sizeOf4
  v4:=Tryz.zeroValue4
  t5:=Tryz.underlying5
  a5:=Tryz.isAgg5
  z5:=Tryz.sizeOf5
  v5:=Tryz.zeroValue5
  t9:=Tryz.underlying9
  a9:=Tryz.isAgg9
  z9:=Tryz.sizeOf9
  v9:=Tryz.zeroValue9
  t22:=Tryz.underlying39
  a22:=Tryz.isAgg39
  z22:=Tryz.sizeOf39
  v22:=Tryz.zeroValue39
  t25:=Tryz.underlying105
  a25:=Tryz.isAgg105
  z25:=Tryz.sizeOf105
  v25:=Tryz.zeroValue105
  t39:=Tryz.underlying72
  a39:=Tryz.isAgg72
  z39:=Tryz.sizeOf72
  v39:=Tryz.zeroValue72
  t45:=Tryz.underlying161
  a45:=Tryz.isAgg161
  z45:=Tryz.sizeOf161
  v45:=Tryz.zeroValue161
  t46:=Tryz.underlying162
  a46:=Tryz.isAgg162
  z46:=Tryz.sizeOf162
  v46:=Tryz.zeroValue162
  t50:=Tryz.underlying81
  a50:=Tryz.isAgg81
  z50:=Tryz.sizeOf81
  v50:=Tryz.zeroValue81
  t53:=Tryz.underlying168
  a53:=Tryz.isAgg168
  z53:=Tryz.sizeOf168
  v53:=Tryz.zeroValue168
  t55:=Tryz.underlying135
  a55:=Tryz.isAgg135
  z55:=Tryz.sizeOf135
  v55:=Tryz.zeroValue135
  t66:=Tryz.underlying184
  a66:=Tryz.isAgg184
  z66:=Tryz.sizeOf184
  v66:=Tryz.zeroValue184
  t70:=Tryz.underlying188
  a70:=Tryz.isAgg188
  z70:=Tryz.sizeOf188
  v70:=Tryz.zeroValue188
  t76:=Tryz.underlying202
  a76:=Tryz.isAgg202
  z76:=Tryz.sizeOf202
  v76:=Tryz.zeroValue202
  t77:=Tryz.underlying203
  a77:=Tryz.isAgg203
  z77:=Tryz.sizeOf203
  v77:=Tryz.zeroValue203}
theorem cB9 (l:List Pl.Dig)(hl:l.length<2^40):Hl.bA9 Tryz.prog (ltOf fun x y:Pl.Dig=>Hl.kJ x.1 y.1) 54 55 44 l:=
  Hl.bO9 (by kernel_rfl) (fun blk cap w hH hb=>(AnyQ.slices_SortFunc bG5 32 Tryz.isAgg44 Tryz.sizeOf44 Hl.eK Hl.mD (fun x v hv=>by obtain⟨b,_,rfl⟩:=List.mem_map.1 hv;rfl) (fun x y=>Hl.kJ x.1 y.1) cB8 55 #[] blk 0 cap l.toArray w
    (enters_of Tryz.func55 (by kernel_rfl) rfl) (bA8 blk _ w) hH hb (by simp;omega)).mono (fun _ _ ⟨h1,d',n,os,h2,h2',h3⟩=>⟨h1,d',n,os,by simpa using h2,by simpa using h2',h3⟩)) (fun cap w=>AnyF.slices_SortFunc_none bG5 none cap _ w)
end Go.Proofs.YthedbjfipmkpiaaGreatDoor
namespace Go.Proofs.YthedbjfipmkpiaaGreatDoor
open Go Go.Hl Go.Pl
set_option maxRecDepth 10000
set_option maxHeartbeats 16000000
theorem qO {X:List Ln}{i:Nat}(h:i<X.length):eC (X.take (i+1))=eC (X.take i)++X[i].d:=by
 unfold eC;rw[List.take_succ_eq_append_getElem h,List.flatMap_append];simp only[List.flatMap_cons,List.flatMap_nil,List.append_nil]
theorem docsL_le (X:List Ln)(i:Nat):(eC (X.take i)).length≤(eC X).length:=by
 have h:eC X=eC (X.take i)++eC (X.drop i):=by
  unfold eC;rw[←List.flatMap_append,List.take_append_drop]
 rw[h,List.length_append];omega
open Go.Sort Go.RowKit Go.Shelf in
theorem cQ0 (a b:Dig):ltOf (fun x y:Dig=>kJ x.1 y.1) a b=slt a.1 b.1:=by
 show decide (kJ a.1 b.1<0)=slt a.1 b.1;unfold kJ;by_cases h:slt a.1 b.1=true
 · simp[h]
 have h':slt a.1 b.1=false:=by simpa using h
 rw[h'];by_cases h2:a.1=b.1<;>simp[h2]
theorem cJ5 (d:Dv)(hl:d.l.length<2^38)(hd:(eC d.l).length<2^38):cE Tryz.prog 24 [d.cv] (fun v=> ∃K:List Dig,v= .slc (K.map dg)∧dws K=bZ1 d.l):=by
 refine bI Tryz.func24 rfl (by kernel_rfl) (dJ _) (Nat.le_of_ble_eq_true rfl) ?_;refine aC fun K hK=>aE (by kernel_rfl) ?_;simp (maxSteps:=4000000) only[↓sP,sA,tyS,simprocAttr];repeat refine AI ?_
 refine hK _ _ _ ?_;clear hK K;refine aC fun K hK=>aE (by kernel_rfl) ?_;simp (maxSteps:=4000000) only[↓sP,sA,tyS,simprocAttr];repeat refine AI ?_
 refine hK _ _ _ ?_;clear hK K;refine aC fun K hK=>?_;refine aC fun K hK=>aE (by kernel_rfl) ?_;simp only[sR,simprocAttr];iterate 4
  (refine aF (g:=none) rfl rfl fun K' hK'=>?_;simp only[sH,↓sP,sA,tyS,simprocAttr];(repeat refine AI ?_);refine hK' _ _ ?_;clear hK' K')
 simp only[sE,↓reduceIte,simprocAttr];repeat refine AI ?_
 refine hK _ _ _ ?_;clear hK K;refine aN ?_;refine jI 3 0 44 32 rfl rfl rfl rfl ?_;refine bH (α:={i:Nat//i≤d.l.length}) (fun i=>(fin [(3,.own 28 (eC (d.l.take i.1)).length),(7,.c (.slc (d.l.map Ln.cv))),(8,.c (.int .i64 d.l.length)),(9,.c (.int .i64 i.1))],fob [(28,.row 44 32 ((eC (d.l.take i.1)).map dg))])) 200 (fun i=>d.l.length-i.1) ⟨0,by omega⟩ (aO (by omega) (by simp[aX,fin_at,finA_at,upd_at,HV.men,HV.menL,HV.norm,HV.toC,HV.toCL,eC]) (by simp[aY,fob_at,upd_at,none0_at,bO,HO.men,HV.men,HV.menL,HV.norm,HV.toC,HV.toCL,eC])) ?_;rintro⟨i,hi⟩;refine aC fun K hK=>aE (by kernel_rfl) ?_;simp (maxSteps:=4000000) only[↓sP,sA,tyS,simprocAttr];repeat refine AI ?_
 refine hK _ _ _ ?_;clear hK K;refine aC fun K hK=>?_;refine aK (b:=decide ((i:Int)<d.l.length)) rfl (fun hb=>?_) (fun hb=>?_)
 ·
  have hlt:i<d.l.length:=by have:=of_decide_eq_true hb;omega
  have hle:=docsL_le d.l (i+1);rw[qO hlt,List.length_append]at hle;have hcd:(∀v∈d.l[i].d.map dg,v.cells=32)=True:=eq_true fun v hv=>by
   obtain⟨x,_,rfl⟩:=List.mem_map.1 hv;exact dg_cells x
  clear hb;refine aM ?_;simp (maxSteps:=4000000) only[↓sP,sA,tyS,simprocAttr];repeat refine AI ?_
  refine hK _ _ _ ?_;clear hK K;refine aC fun K hK=>?_;refine aN ?_;refine aC fun K hK=>aE (by kernel_rfl) ?_;simp only[sR,simprocAttr];iterate 4
   (refine aF (g:=none) rfl rfl fun K' hK'=>?_;simp only[sH,↓sP,sA,tyS,simprocAttr,Int.natCast_nonneg,Int.ofNat_lt,hlt,bK hlt];(repeat refine AI ?_);refine hK' _ _ ?_;clear hK' K')
  simp only[sE,↓reduceIte,simprocAttr];repeat refine AI ?_
  refine hK _ _ _ ?_;clear hK K;refine aE (by kernel_rfl) ?_;simp only[sR,simprocAttr];iterate 5
   (refine aF (g:=none) rfl rfl fun K' hK'=>?_;simp only[sH,↓sP,sA,tyS,simprocAttr,List.length_map,hcd];(repeat refine AI ?_);refine hK' _ _ ?_;clear hK' K')
  simp only[sE,↓reduceIte,simprocAttr];repeat refine AI ?_
  refine hK _ _ _ ?_;clear hK K;refine aE (by kernel_rfl) ?_;simp (maxSteps:=4000000) only[↓sP,sA,tyS,simprocAttr,IntWalk.i64_in _ (show-9223372036854775808≤(i:Int)+1∧(i:Int)+1≤9223372036854775807 by omega)];refine⟨⟨i+1,by omega⟩,(aO (by omega) (by simp[aX,fin_at,finA_at,upd_at,HV.men,HV.menL,HV.norm,HV.toC,HV.toCL,qO hlt,List.map_append,List.length_append]) (by simp[aY,fob_at,upd_at,none0_at,bO,HO.men,HV.men,HV.menL,HV.norm,HV.toC,HV.toCL,qO hlt,List.map_append,List.length_append])),?_⟩;show d.l.length-(i+1)<d.l.length-i;omega
 have hie:i=d.l.length:=by have:=of_decide_eq_false hb;omega
 subst hie;clear hb;rw[List.take_length];refine aZ ?_;simp (maxSteps:=4000000) only[↓sP,sA,tyS,simprocAttr];clear hK K;repeat refine AI ?_
 refine hK _ _ _ ?_;clear hK K;refine aC fun K hK=>aE (by kernel_rfl) ?_;simp only[sR,simprocAttr];refine aF (g:=none) rfl rfl fun K' hK'=>?_;simp (maxSteps:=4000000) only[sH,↓sP,sA,tyS,simprocAttr];repeat refine AI ?_
 refine hK' _ _ ?_;clear hK' K';refine aF (g:=none) rfl rfl fun K' hK'=>?_;simp (maxSteps:=4000000) only[sH,↓sP,sA,tyS,simprocAttr];refine bB0 (cB9 (eC d.l) (by omega)) rfl (by simp) (by simp) ⟨rfl,rfl,rfl,rfl⟩ ?_;rintro s hp hs;have hsl:=hp.length_eq;repeat refine AI ?_
 refine hK' _ _ ?_;clear hK' K';simp only[sE,↓reduceIte,simprocAttr];repeat refine AI ?_
 refine hK _ _ _ ?_;clear hK K;refine aC fun K hK=>aE (by kernel_rfl) ?_;simp only[sR,simprocAttr];refine aF (g:=none) rfl rfl fun K' hK'=>?_;simp (maxSteps:=4000000) only[sH,↓sP,sA,tyS,simprocAttr];repeat refine AI ?_
 refine hK' _ _ ?_;clear hK' K';refine aF (g:=none) rfl rfl fun K' hK'=>?_;simp (maxSteps:=4000000) only[sH,↓sP,sA,tyS,simprocAttr];refine bS7 (aU1 s (by omega)) (by simp[HV.menL]) (by simp[HV.renL]) rfl (by simp;omega) (by simp) ⟨rfl,rfl,rfl,rfl⟩ ?_;rintro l' ⟨Q,rfl,hQ⟩;repeat refine AI ?_
 refine hK' _ _ ?_;clear hK' K';refine aF (g:=none) rfl rfl fun K' hK'=>?_;simp (maxSteps:=4000000) only[sH,↓sP,sA,tyS,simprocAttr];repeat refine AI ?_
 refine hK' _ _ ?_;clear hK' K';simp only[sE,↓reduceIte,simprocAttr];repeat refine AI ?_
 refine hK _ _ _ ?_;clear hK K;refine aH ?_;simp (maxSteps:=4000000) only[bS,Tryz.results24,bP,bR,bN,↓sP,sA,tyS,simprocAttr];refine aJ [216] (.slc (Q.map dg)) (by simp[HV.close,fob_at,upd_at,cD5,HV.norm,HV.toC]) ⟨Q,rfl,?_⟩;rw[hQ,bZ1];refine bN8 hp (hs.imp fun {a b} h=>?_);rw[←cQ0];exact h
end Go.Proofs.YthedbjfipmkpiaaGreatDoor
namespace Go.Pl
open Go Go.Hl
def tr1 :List Nd:=[⟨1,0,0,⟨1,1,0,[]⟩⟩]
def sp1 :List Sp:=[⟨true,[dg1 4],0⟩]
def ln1 :List Ln:=[⟨1,0,[dg1 4],[]⟩,⟨5,0,[],[0]⟩]
def dv1 :Dv:={dv0 with l:=ln1}
theorem cL8 :eH tr1 (cF sp1)=true:=by decide+kernel
theorem cQ1 :dY tr1 sp1=ln1:=by
 have h:nT tr1 sp1=[⟨1,0,[dg1 4],[]⟩]:=rfl;unfold dY;rw[if_pos cL8,h];rfl
theorem bB1 :iA dv1=[[wDer,[],[],jG zdg,[48],jG zdg,[48]],[wOrg,jG zdg,[],[]],[sD,[48]],[wDoc,jG (dg1 4)],[bX3,[48],[48]]]:=by
 simp only[iA,kW,dv1,dv0,qs0,og0,ln1,List.flatMap_cons,List.flatMap_nil,fB,firstL,wordK,bL4,List.map_cons,List.map_nil,lY,List.cons_append,List.nil_append,if_true];rfl
theorem cQ2 :dvE dv1=0:=by
 unfold dvE;rw[if_pos (by decide+kernel),bB1];decide+kernel
theorem qP :ddE (dvO dv1)=0∧(ddO (dvO dv1)).l.length=2:=by
 obtain⟨h1,h2,h3⟩:=yH cQ2 rfl;rw[h2,h3];exact⟨rfl,rfl⟩
end Go.Pl
namespace Go.Proofs.YthedbjfipmkpiaaGreatDoor
open Go Go.Hl Go.Pl
set_option maxRecDepth 10000
set_option maxHeartbeats 16000000
theorem cU5 :DvW dv1:=by
 refine⟨by decide,by decide,fun x hx=>?_,by rw[bB1];decide,by decide⟩;simp only[dv1,ln1,List.mem_cons,List.not_mem_nil,or_false]at hx;rcases hx with rfl|rfl
 · exact⟨by decide,by decide,by simp,by simp,by simp⟩
 exact⟨by decide,by decide,fun n hn=>by obtain rfl:=List.mem_singleton.1 hn;decide,by simp,by simp⟩
theorem cJ6 :(dvO dv1).length<2^40:=by
 have h:dvO dv1=rV (iA dv1):=(aZ8 cQ2).2.2;rw[h,bB1];decide+kernel
theorem cU6 :(bZ1 dv1.l).length=1:=by decide+kernel
theorem cC0 :nV Tryz.prog 17 tabs [] (fun v=>v= .bool true):=by
 refine bI (args:=[]) Tryz.func17 rfl (by kernel_rfl) (gF tabs []) (Nat.le_of_ble_eq_true rfl) ?_;unfold gC;refine aC fun K hK=>aE (by kernel_rfl) ?_;simp (maxSteps:=4000000) only[↓sP,sA,tyS,simprocAttr];repeat refine AI ?_
 refine hK _ _ _ ?_;clear hK K;refine aC fun K hK=>bY (by kernel_rfl) ?_;simp only[sR,simprocAttr];iterate 2
  (refine aU (g:=none) rfl rfl fun K' hK'=>?_;simp only[sH,↓sP,sA,tyS,simprocAttr];(repeat refine AI ?_);refine hK' _ _ ?_;clear hK' K')
 refine cT (g:=none) 13 rfl rfl fun K' hK'=>?_;simp (maxSteps:=4000000) only[gP,jP,sH,↓sP,sA,tyS,simprocAttr];repeat refine AI ?_
 refine dA (by first|rfl|simp) ?_;try simp (maxSteps:=4000000) only[sH,↓sP,sA,tyS,simprocAttr]
 repeat refine AI ?_
 refine hK' _ _ ?_;clear hK' K';refine aU (g:=none) rfl rfl fun K' hK'=>?_;simp (maxSteps:=4000000) only[sH,↓sP,sA,tyS,simprocAttr];repeat refine AI ?_
 refine hK' _ _ ?_;clear hK' K';simp only[sE,↓reduceIte,simprocAttr];repeat refine AI ?_
 refine hK _ _ _ ?_;clear hK K;refine aC fun K hK=>bY (by kernel_rfl) ?_;simp only[sR,simprocAttr];iterate 2
  (refine aU (g:=none) rfl rfl fun K' hK'=>?_;simp only[sH,↓sP,sA,tyS,simprocAttr];(repeat refine AI ?_);refine hK' _ _ ?_;clear hK' K')
 refine cT (g:=none) 29 rfl rfl fun K' hK'=>?_;simp (maxSteps:=4000000) only[gP,jP,sH,↓sP,sA,tyS,simprocAttr];repeat refine AI ?_
 refine dA (by first|rfl|simp) ?_;try simp (maxSteps:=4000000) only[sH,↓sP,sA,tyS,simprocAttr]
 repeat refine AI ?_
 refine hK' _ _ ?_;clear hK' K';refine aU (g:=none) rfl rfl fun K' hK'=>?_;simp (maxSteps:=4000000) only[sH,↓sP,sA,tyS,simprocAttr];repeat refine AI ?_
 refine hK' _ _ ?_;clear hK' K';refine cT (g:=none) 37 rfl rfl fun K' hK'=>?_;simp (maxSteps:=4000000) only[gP,jP,sH,↓sP,sA,tyS,simprocAttr];repeat refine AI ?_
 refine dA (by first|rfl|simp) ?_;try simp (maxSteps:=4000000) only[sH,↓sP,sA,tyS,simprocAttr]
 repeat refine AI ?_
 refine hK' _ _ ?_;clear hK' K';refine aU (g:=none) rfl rfl fun K' hK'=>?_;simp (maxSteps:=4000000) only[sH,↓sP,sA,tyS,simprocAttr];refine iU (args:=[_,_]) (cB7 tr1 (by simp[tr1]) sp1 (by decide) (by simp[sp1])) ⟨rfl,rfl,rfl,rfl⟩ ?_;rintro u v ⟨rfl,rfl⟩;rw[cL8,cQ1];repeat refine AI ?_
 refine hK' _ _ ?_;clear hK' K';iterate 5
  (refine aU (g:=none) rfl rfl fun K' hK'=>?_;simp only[sH,↓sP,sA,tyS,simprocAttr];(repeat refine AI ?_);refine hK' _ _ ?_;clear hK' K')
 simp only[sE,↓reduceIte,simprocAttr];repeat refine AI ?_
 refine hK _ _ _ ?_;clear hK K;refine aC fun K hK=>aE (by kernel_rfl) ?_;simp only[sR,simprocAttr];iterate 4
  (refine aF (g:=none) rfl rfl fun K' hK'=>?_;simp only[sH,↓sP,sA,tyS,simprocAttr,dH,dI];(repeat refine AI ?_);refine hK' _ _ ?_;clear hK' K')
 simp only[sE,↓reduceIte,simprocAttr];repeat refine AI ?_
 refine hK _ _ _ ?_;clear hK K;refine bJ (fr2:=fin [(2,.c (.slc (ln1.map Ln.cv))),(3,.c (.bool true)),(4,.ptr 73 0)]) (ob2:=fob [(0,.tab tabs),(73,.box 50 (.c dv1.cv))]) (nx2:=100) (aO (by omega) (by simp[aX,fin_at,finA_at,upd_at,HV.men,HV.menL,HV.norm,HV.toC,HV.toCL]) (by simp[aY,fob_at,upd_at,none0_at,bO,HO.men,HV.men,HV.menL,HV.norm,HV.toC,HV.toCL];rfl)) ?_;refine aC fun K hK=>aE (by kernel_rfl) ?_;simp only[sR,simprocAttr];refine aF (g:=none) rfl rfl fun K' hK'=>?_;simp (maxSteps:=4000000) only[sH,↓sP,sA,tyS,simprocAttr];repeat refine AI ?_
 refine hK' _ _ ?_;clear hK' K';refine aF (g:=none) rfl rfl fun K' hK'=>?_;simp (maxSteps:=4000000) only[sH,↓sP,sA,tyS,simprocAttr];refine eU (args:=[_]) 0 (yT dv1 cU5) rfl (by simp) ⟨rfl,rfl,rfl,rfl⟩ ?_;rintro u v ⟨rfl,rfl⟩;rw[cQ2];repeat refine AI ?_
 refine hK' _ _ ?_;clear hK' K';iterate 5
  (refine aF (g:=none) rfl rfl fun K' hK'=>?_;simp only[sH,↓sP,sA,tyS,simprocAttr];(repeat refine AI ?_);refine hK' _ _ ?_;clear hK' K')
 simp only[sE,↓reduceIte,simprocAttr];repeat refine AI ?_
 refine hK _ _ _ ?_;clear hK K;refine aC fun K hK=>aE (by kernel_rfl) ?_;simp only[sR,simprocAttr];refine aF (g:=none) rfl rfl fun K' hK'=>?_;simp (maxSteps:=4000000) only[sH,↓sP,sA,tyS,simprocAttr,cP];repeat refine AI ?_
 refine hK' _ _ ?_;clear hK' K';refine aF (g:=none) rfl rfl fun K' hK'=>?_;simp (maxSteps:=4000000) only[sH,↓sP,sA,tyS,simprocAttr,cP];refine eU (args:=[_]) 0 (bG2 (dvO dv1) cJ6) rfl (by simp) ⟨rfl,rfl,rfl,rfl⟩ ?_;rintro u v ⟨rfl,rfl⟩;rw[qP.1];repeat refine AI ?_
 refine hK' _ _ ?_;clear hK' K';iterate 6
  (refine aF (g:=none) rfl rfl fun K' hK'=>?_;simp only[sH,↓sP,sA,tyS,simprocAttr,cP];(repeat refine AI ?_);refine hK' _ _ ?_;clear hK' K')
 simp only[sE,↓reduceIte,simprocAttr];repeat refine AI ?_
 refine hK _ _ _ ?_;clear hK K;refine aC fun K hK=>aE (by kernel_rfl) ?_;simp only[sR,simprocAttr];iterate 2
  (refine aF (g:=none) rfl rfl fun K' hK'=>?_;simp only[sH,↓sP,sA,tyS,simprocAttr,List.length_map,(show((ln1.length:Int)==2)=true from rfl),qP.2,(show(((2:Nat):Int)==2)=true from rfl),(show(((1:Nat):Int)==1)=true from rfl)];(repeat refine AI ?_);refine hK' _ _ ?_;clear hK' K')
 iterate 3
  (refine aF (g:=some (34,true)) rfl rfl fun K' hK'=>?_;simp only[sH,↓sP,sA,tyS,simprocAttr,List.length_map,(show((ln1.length:Int)==2)=true from rfl),qP.2,(show(((2:Nat):Int)==2)=true from rfl),(show(((1:Nat):Int)==1)=true from rfl)];(repeat refine AI ?_);refine hK' _ _ ?_;clear hK' K')
 iterate 2
  (refine aF (g:=none) rfl rfl fun K' hK'=>?_;simp only[sH,↓sP,sA,tyS,simprocAttr,List.length_map,(show((ln1.length:Int)==2)=true from rfl),qP.2,(show(((2:Nat):Int)==2)=true from rfl),(show(((1:Nat):Int)==1)=true from rfl)];(repeat refine AI ?_);refine hK' _ _ ?_;clear hK' K')
 refine aF (g:=some (39,true)) rfl rfl fun K' hK'=>?_;simp (maxSteps:=4000000) only[sH,↓sP,sA,tyS,simprocAttr,List.length_map,(show((ln1.length:Int)==2)=true from rfl),qP.2,(show(((2:Nat):Int)==2)=true from rfl),(show(((1:Nat):Int)==1)=true from rfl)];repeat refine AI ?_
 refine hK' _ _ ?_;clear hK' K';refine aF (g:=some (39,true)) rfl rfl fun K' hK'=>?_;simp (maxSteps:=4000000) only[sH,↓sP,sA,tyS,simprocAttr,List.length_map,(show((ln1.length:Int)==2)=true from rfl),qP.2,(show(((2:Nat):Int)==2)=true from rfl),(show(((1:Nat):Int)==1)=true from rfl)];refine cZ (args:=[_]) (cJ5 dv1 (by decide) (by decide)) ⟨rfl,rfl,rfl,rfl⟩ ?_;rintro u ⟨D0,rfl,hD0⟩;have hD1:D0.length=1:=by rw[←fW,hD0,cU6]
 repeat refine AI ?_
 refine hK' _ _ ?_;clear hK' K';refine aF (g:=some (39,true)) rfl rfl fun K' hK'=>?_;simp (maxSteps:=4000000) only[sH,↓sP,sA,tyS,simprocAttr,List.length_map,(show((ln1.length:Int)==2)=true from rfl),qP.2,(show(((2:Nat):Int)==2)=true from rfl),(show(((1:Nat):Int)==1)=true from rfl)];rw[hD1];repeat refine AI ?_
 refine hK' _ _ ?_;clear hK' K';refine aF (g:=some (39,true)) rfl rfl fun K' hK'=>?_;simp (maxSteps:=4000000) only[sH,↓sP,sA,tyS,simprocAttr,List.length_map,(show((ln1.length:Int)==2)=true from rfl),qP.2,(show(((2:Nat):Int)==2)=true from rfl),(show(((1:Nat):Int)==1)=true from rfl)];repeat refine AI ?_
 refine hK' _ _ ?_;clear hK' K';iterate 2
  (refine aF (g:=none) rfl rfl fun K' hK'=>?_;simp only[sH,↓sP,sA,tyS,simprocAttr,List.length_map,(show((ln1.length:Int)==2)=true from rfl),qP.2,(show(((2:Nat):Int)==2)=true from rfl),(show(((1:Nat):Int)==1)=true from rfl)];(repeat refine AI ?_);refine hK' _ _ ?_;clear hK' K')
 iterate 2
  (refine aF (g:=some (45,true)) rfl rfl fun K' hK'=>?_;simp only[sH,↓sP,sA,tyS,simprocAttr,List.length_map,(show((ln1.length:Int)==2)=true from rfl),qP.2,(show(((2:Nat):Int)==2)=true from rfl),(show(((1:Nat):Int)==1)=true from rfl)];(repeat refine AI ?_);refine hK' _ _ ?_;clear hK' K')
 iterate 2
  (refine aF (g:=none) rfl rfl fun K' hK'=>?_;simp only[sH,↓sP,sA,tyS,simprocAttr,List.length_map,(show((ln1.length:Int)==2)=true from rfl),qP.2,(show(((2:Nat):Int)==2)=true from rfl),(show(((1:Nat):Int)==1)=true from rfl)];(repeat refine AI ?_);refine hK' _ _ ?_;clear hK' K')
 iterate 2
  (refine aF (g:=some (49,true)) rfl rfl fun K' hK'=>?_;simp only[sH,↓sP,sA,tyS,simprocAttr,List.length_map,(show((ln1.length:Int)==2)=true from rfl),qP.2,(show(((2:Nat):Int)==2)=true from rfl),(show(((1:Nat):Int)==1)=true from rfl)];(repeat refine AI ?_);refine hK' _ _ ?_;clear hK' K')
 iterate 2
  (refine aF (g:=none) rfl rfl fun K' hK'=>?_;simp only[sH,↓sP,sA,tyS,simprocAttr,List.length_map,(show((ln1.length:Int)==2)=true from rfl),qP.2,(show(((2:Nat):Int)==2)=true from rfl),(show(((1:Nat):Int)==1)=true from rfl)];(repeat refine AI ?_);refine hK' _ _ ?_;clear hK' K')
 iterate 4
  (refine aF (g:=some (53,true)) rfl rfl fun K' hK'=>?_;simp only[sH,↓sP,sA,tyS,simprocAttr,List.length_map,(show((ln1.length:Int)==2)=true from rfl),qP.2,(show(((2:Nat):Int)==2)=true from rfl),(show(((1:Nat):Int)==1)=true from rfl)];(repeat refine AI ?_);refine hK' _ _ ?_;clear hK' K')
 iterate 2
  (refine aF (g:=none) rfl rfl fun K' hK'=>?_;simp only[sH,↓sP,sA,tyS,simprocAttr,List.length_map,(show((ln1.length:Int)==2)=true from rfl),qP.2,(show(((2:Nat):Int)==2)=true from rfl),(show(((1:Nat):Int)==1)=true from rfl)];(repeat refine AI ?_);refine hK' _ _ ?_;clear hK' K')
 simp only[sE,↓reduceIte,simprocAttr];repeat refine AI ?_
 refine hK _ _ _ ?_;clear hK K;refine aH ?_;simp (maxSteps:=4000000) only[bS,Tryz.results17,bP,bR,bN,↓sP,sA,tyS,simprocAttr];exact pZ [] (.bool true) rfl rfl (by simp) rfl
structure DvT (d:Dv):Prop where
 t:I64 d.t
 r:I64 d.r
 l: ∀x∈d.l,I64 x.k∧I64 x.n∧ ∀n∈x.f,I64 n
 ll:d.l.length<2^63
theorem vL {α:Type}{f:α→CV}{Q:α→Prop}: ∀(l:List CV),(∀x∈l,∃y,x=f y∧Q y)→ ∃m:List α,l=m.map f∧ ∀y∈m,Q y
 |[],_=>⟨[],rfl,by simp⟩
 |x::l,h=>by
  obtain⟨y,rfl,hy⟩:=h x (by simp);obtain⟨m,rfl,hm⟩:=vL l (fun x hx=>h x (by simp[hx]));exact⟨y::m,rfl,fun z hz=>by rcases List.mem_cons.1 hz with rfl|hz;exact hy;exact hm z hz⟩
theorem cX2 {n:Int}(h:(Lit.int .i64 n).wf=true):I64 n:=by
 simpa[Lit.wf,IntKind.min,IntKind.max,IntKind.signed,IntKind.bits]using h
theorem cJ7 {c:CV}(h:HasTy Tryz.prog 22 c): ∃L:List Int,c= .slc (L.map (.int .i64))∧(∀n∈L,I64 n)∧L.length≤maxLen:=by
 obtain⟨l,rfl,hl,hn⟩:=h.of_slc Tryz.underlying22;obtain⟨m,rfl,hm⟩:=vL (f:=CV.int .i64) (Q:=I64) l (fun x hx=>by obtain⟨n,rfl,hw⟩:=(hl x hx).of_int Tryz.underlying3;exact⟨n,rfl,cX2 hw⟩);exact⟨m,rfl,hm,by simpa using hn⟩
theorem own :ownKnob Tryz.prog.godebug=none:=by kernel_rfl
theorem cU7 :Kids Tryz.prog (· <Tryz.prog.types.size):=kids_rows (by kernel_rfl) (by kernel_rfl)
theorem bB2 : ∀t e,t<Tryz.prog.types.size→Tryz.prog.underlying t=some (.slice e)→0<Tryz.prog.cellsOf e:=slices_full_of Tryz.prog (by kernel_rfl)
def tp (L:List Int)(a:Nat):CV:= .agg [.slc (L.map (.int .i64)),.int .i64 a]
attribute [local simp] tp
theorem dE (L:List Int)(a:Nat)(n:Int)(ha:a<2^40)(hn:n<2^62):zT Tryz.prog 13 76 (tp L a) [.int .i64 n] (fun u v'=> ∃(x:Int) (a':Nat),u= .int .i64 x∧v'=tp L a'∧a'≤a+1∧0≤x∧(n<1→x=0)∧(1≤n→x<n)):=by
 refine bI Tryz.func13 rfl (by kernel_rfl) (fN _ _ _) (Nat.le_of_ble_eq_true rfl) ?_;refine R0 ?_;refine aC fun K hK=>?_;refine R0 ?_;refine aK (b:=decide (n<1)) rfl (fun hb=>?_) (fun hb=>?_)
 · refine R0 ?_;refine aH (RT Tryz.results13 ?_);refine gO [] (.int .i64 0) (tp L a) rfl rfl ?_ (by simp) ⟨0,a,rfl,rfl,by omega,by omega,fun _=>rfl,fun h=>by omega⟩;simp[HV.close,tp,CV.denil,CV.denilL,denilL_int,HV.norm,HV.toC]
 refine aM ?_;refine T0 (hK _ _ _ ?_);clear hK K;refine aC fun K hK=>Rg ?_;iterate 7 refine S0 ?_ (e:=fun _ h_=>by simp only[sH,↓sP,sA,tyS,simprocAttr,tp];exact AX h_)
 refine T2 (hK _ _ _ ?_);clear hK K;refine aC fun K hK=>?_;have key: ∀(v:Int) fr ob nx,Fits 1 fr ob (fin [(0,.ptr 0 0),(1,.c (.int .i64 n)),(5,.c (.int .i64 v))]) (fob [(0,.box 76 (.c (tp L a)))]) 300→K fr ob nx:=by
  intro v fr ob nx hf;refine hK _ _ _ (bJ hf ?_);clear hf hK K;have hn1:1≤n:=by simp at hb;omega
  have e0:=Int.tmod_lt_of_pos v (b:=n) (by omega);have e1: -n<v.tmod n:=Int.lt_tmod_of_pos v (by omega);refine aC fun K hK=>Rg ?_;iterate 8 refine S0 ?_ (e:=fun _ h_=>by simp only[sH,↓sP,sA,tyS,simprocAttr,tp];exact AX h_)
  refine T2 (hK _ _ _ ?_);clear hK K;refine aC fun K hK=>Rg ?_;iterate 8 refine S0 ?_ (e:=fun _ h_=>by simp only[sH,↓sP,sA,tyS,simprocAttr,tp];exact AX h_)
  refine T2 (hK _ _ _ ?_);clear hK K;refine aH (RT Tryz.results13 ?_);have e2:IntKind.i64.wrap (v.tmod n+n)=v.tmod n+n:=IntWalk.i64_in _ (by omega);have e3:IntKind.i64.wrap ((a:Int)+1)=((a+1:Nat):Int):=IntWalk.i64_in _ (by omega);refine gO [] (.int .i64 ((v.tmod n+n).tmod n)) (tp L (a+1)) (by rw[e2];rfl) rfl ?_ (by simp) ⟨_,a+1,rfl,rfl,by omega,Int.tmod_nonneg _ (by omega),fun h=>by omega,fun _=>Int.tmod_lt_of_pos _ (by omega)⟩;simp[HV.close,HV.closeL,tp,CV.denil,CV.denilL,denilL_int,HV.norm,HV.toC,HV.toCL,e3]
 refine aC fun K hK=>QR ?_;iterate 10 refine S0 ?_ (e:=fun _ h_=>by simp only[sH,↓sP,sA,tyS,simprocAttr,tp];exact AX h_)
 refine T2 (hK _ _ _ ?_);clear hK K;refine aK (b:=decide ((a:Int)<L.length)) rfl (fun hb=>?_) (fun hb=>?_)
 ·
  refine QW ?_;simp only[sR,simprocAttr];iterate 11 refine S0 ?_ (e:=fun _ h_=>by simp only[sH,↓sP,sA,tyS,simprocAttr,tp,Int.natCast_nonneg,(by simpa using hb:(a:Int)<L.length),bK (show a<L.length by simpa using hb)];exact AX h_)
  refine T4 ?_;exact key (L[a]'(by simpa using hb)) _ _ _ (fF)
 refine aM (T3 ?_);exact key (IntKind.i64.wrap (IntKind.i64.wrap (↑a*7)+3)) _ _ _ (fF)
theorem sW (L:List Int)(a:Nat)(l:List aL)(ha:a<2^40)(hl:1≤l.length∧l.length<2^40):zT Tryz.prog 91 76 (tp L a) [.slc (l.map .str)] (fun u v'=> ∃(w:aL) (a':Nat),u= .str w∧w∈l∧v'=tp L a'∧a'≤a+1):=by
 refine bI Tryz.func91 rfl (by kernel_rfl) (fN _ _ _) (Nat.le_of_ble_eq_true rfl) ?_;refine R0 ?_;refine aC fun K hK=>aE (by kernel_rfl) ?_;simp only[↓sP,sA,tyS,simprocAttr];refine bM (args:=[_]) (dE L a l.length ha (by omega)) rfl (by simp) ⟨rfl,rfl,rfl,rfl⟩ ?_;rintro u v' ⟨x,a',rfl,rfl,h1,h2,h3,h4⟩;obtain⟨i,rfl⟩: ∃i:Nat,x=i:=⟨x.toNat,by omega⟩;have hlt:i<l.length:=by omega
 simp only[↓sP,sA,tyS,simprocAttr,Int.natCast_nonneg,Int.ofNat_lt,hlt,bK hlt];refine AX (hK _ _ _ ?_);clear hK K;refine aH (RT Tryz.results91 ?_);exact gO [] (.str l[i]) (tp L a') rfl rfl (by simp[HV.close,HV.closeL,tp,CV.denil,CV.denilL,denilL_int,HV.norm,HV.toC,HV.toCL]) (by simp) ⟨_,a',rfl,List.getElem_mem _,rfl,h1⟩
theorem cJ8 (L:List Int)(n:Nat):HGe Tryz.prog 10 [.c (.slc (L.map (.int .i64))),.c (.int .i64 n)] [] (fun r os'=>r= .ptr 0 0∧os'=[.box 76 (.c (tp (L.take n) 0))]):=by
 refine bI (args:=[.c (.slc (L.map (.int .i64))),.c (.int .i64 n)]) Tryz.func10 rfl (by kernel_rfl) (eZ rfl (by simp[dS]) (by simp[HV.menL,HV.men])) (Nat.le_of_ble_eq_true rfl) ?_;show Hw _ _ 0 _ _ _ (lst _) 0;rw[show lst []=fob []from by funext i;simp[lst,fob]];refine R0 ?_;refine aC fun K hK=>Rg ?_;have F:=@denilL_int;iterate 9 refine SF ?_
 refine T2 (hK _ _ _ ?_);clear hK K;refine aH (RT Tryz.results10 ?_);refine gU [] [32] (.ptr 0 0) [.box 76 (.c (tp (L.take n) 0))] rfl (by simp[HV.men]) ⟨⟨by simp[HO.men,HV.men],by simp,_,rfl,?_⟩,trivial⟩ rfl (by simp) (by simp) (by simp) ⟨rfl,rfl⟩;simp[HO.close,HV.close,HV.closeL,HO.ren,HV.ren,HV.renL,tau,CV.denil,CV.denilL,denilL_int,HV.norm,aO8,upd_at,fob_at,HV.toC,HV.toCL,tp];have e:(if n<L.length then(n:Int)else(L.length:Int)).toNat=min n L.length:=by split<;>omega
 rw[e,←List.map_take,←List.map_take,denilL_int,←List.take_eq_take_min]
theorem bG6 (L:List Int)(a:Nat)(ha:a<2^39):zT Tryz.prog 73 76 (tp L a) [] (fun u v'=> ∃(q:Rq) (a':Nat),u=q.cv∧v'=tp L a'∧a'≤a+3∧eN q=true):=by
 refine bI Tryz.func73 rfl (by kernel_rfl) (fN _ _ _) (Nat.le_of_ble_eq_true rfl) ?_;have hw3: ∀x:Int,0≤x→x<100→IntKind.i64.wrap (1+x)=1+x:=fun x h1 h2=>IntWalk.i64_in _ (by omega);refine R0 ?_;refine aC fun K hK=>Rg ?_;refine S0 ?_;refine HS rfl rfl fun K' hK'=>T5 ?_;refine bM (args:=[_]) (dE L a 8 (by omega) (by omega)) rfl (by simp) ⟨rfl,rfl,rfl,rfl⟩ ?_;rintro u v' ⟨x,a1,rfl,rfl,h1,h2,h3,h4⟩;refine AX (hK' _ _ ?_);clear hK' K';iterate 4 refine S0 ?_
 refine T2 (hK _ _ _ ?_);clear hK K;refine aC fun K hK=>?_;have key: ∀(q:Rq) (a':Nat) fr ob nx,eN q=true→a'≤a+3→Fits 1 fr ob (fin [(2,.ptr 1 0),(3,.ptr 21 0)]) (fob [(0,.box 76 (.c (tp L a'))),(1,.box 87 (.c rq0.cv)),(21,.box 87 (.c q.cv))]) 600→K fr ob nx:=by
  rintro q a' fr ob nx hq ha' hf;refine hK _ _ _ (bJ hf ?_);clear hf hK K;refine R0 ?_;refine aH (RT Tryz.results73 ?_);exact gO [] q.cv (tp L a') (by simp[HV.close,Rq.denil,HV.norm,HV.toC]) rfl (by simp[HV.close,tp,CV.denil,CV.denilL,denilL_int,HV.norm,HV.toC]) (by simp) ⟨q,a',rfl,rfl,ha',hq⟩
 have hx8:=h4 (by omega);obtain⟨k,hk⟩: ∃k,k=IntKind.i64.wrap (1+x):=⟨_,rfl⟩;have hkx:k=1+x:=by rw[hk,hw3 x h2 (by omega)]
 rw[←hk];clear hk h3 h4;refine R0 ?_;refine aN ?_;refine aC fun K hK=>?_;have key2: ∀(b:Bool) fr ob nx,b=(k==1||(k==3||k==5))→Fits 1 fr ob (fin [(0,.ptr 0 0),(2,.ptr 1 0),(3,.ptr 21 0),(9,.c (.int .i64 k)),(10,.c (.bool b))]) (fob [(0,.box 76 (.c (tp L a1))),(1,.box 87 (.c rq0.cv)),(21,.box 87 (.c (Rq.cv ⟨k,0,0,[]⟩)))]) 200→K fr ob nx:=by
  rintro b fr ob nx rfl hf;refine hK _ _ _ (bJ hf ?_);clear hf hK K;refine aK (b:=_) rfl (fun hb=>?_) (fun hb=>?_)
  ·
   refine Rg ?_;refine S0 ?_;refine HS rfl rfl fun K' hK'=>T5 ?_;refine bM (args:=[_]) (dE L a1 3 (by omega) (by omega)) rfl (by simp) ⟨rfl,rfl,rfl,rfl⟩ ?_;rintro u v' ⟨y,a2,rfl,rfl,g1,g2,g3,g4⟩;refine AX (hK' _ _ ?_);clear hK' K';iterate 3 refine S0 ?_
   refine T4 ?_;have g5:=g4 (by omega);have hk3:k=1∨k=3∨k=5:=by simpa using hb
   exact key ⟨k,IntKind.i64.wrap (1+y),0,[]⟩ a2 _ _ _ (by rw[hw3 y g2 (by omega),eN,if_pos hk3];simp[inB];omega) (by omega) (fF)
  have h1:=hb;refine R0 ?_;refine aK (b:=_) rfl (fun hb=>?_) (fun hb=>?_)
  ·
   refine Rg ?_;refine S0 ?_;refine HS rfl rfl fun K' hK'=>T5 ?_;refine bM (args:=[_]) (dE L a1 2 (by omega) (by omega)) rfl (by simp) ⟨rfl,rfl,rfl,rfl⟩ ?_;rintro u v' ⟨y,a2,rfl,rfl,g1,g2,g3,g4⟩;have g5:=g4 (by omega);clear g3 g4;refine AX (hK' _ _ ?_);clear hK' K';iterate 2 refine S0 ?_
   refine HS rfl rfl fun K' hK'=>T5 ?_;refine bM (args:=[_]) (dE L a2 2 (by omega) (by omega)) rfl (by simp) ⟨rfl,rfl,rfl,rfl⟩ ?_;rintro u v' ⟨z,a3,rfl,rfl,f1,f2,f3,f4⟩;refine AX (hK' _ _ ?_);clear hK' K';iterate 4 refine S0 ?_
   refine T4 ?_;have n1: ¬(k=1∨k=3∨k=5):=by simpa using h1
   have f5:=f4 (by omega);have hk4:k=4:=by simpa using hb
   exact key ⟨k,IntKind.i64.wrap (1+y),z,[]⟩ a3 _ _ _ (by rw[hw3 y g2 (by omega),eN,if_neg n1,if_pos hk4];simp[inB];omega) (by omega) (fF)
  have n4: ¬k=4:=by simpa using hb
  refine R0 ?_;refine aK (b:=_) rfl (fun hb=>?_) (fun hb=>?_)
  ·
   refine bY (by kernel_rfl) ?_;simp only[sR,simprocAttr];refine SG0 ?_;refine cT (g:=none) 220 rfl rfl fun K' hK'=>?_;simp only[gP,jP,sH,↓sP,sA,tyS,simprocAttr];repeat refine AI ?_
   refine dA (by first|rfl|simp) ?_;try simp only[sH,↓sP,sA,tyS,simprocAttr]
   refine AX (hK' _ _ ?_);clear hK' K';refine aU (g:=none) rfl rfl fun K' hK'=>T5 ?_;refine bM (args:=[_]) (sW L a1 [[115,104,111,112],[119,101,98]] (by omega) (by decide)) rfl (by simp) ⟨rfl,rfl,rfl,rfl⟩ ?_;rintro u v' ⟨w,a2,rfl,hwm,rfl,g1⟩;refine AX (hK' _ _ ?_);clear hK' K';iterate 2 refine SG0 ?_
   refine T4 ?_;have n1: ¬(k=1∨k=3∨k=5):=by simpa using h1
   have hk2:k=2:=by simpa using hb
   exact key ⟨k,0,0,w⟩ a2 _ _ _ (by
    have hnm:eR w=true:=by
     simp only[List.mem_cons,List.not_mem_nil,or_false]at hwm;rcases hwm with rfl|rfl<;>decide
    rw[eN,if_neg n1,if_neg n4,if_pos hk2,hnm];rfl) (by omega) (fF)
  have n2: ¬k=2:=by simpa using hb
  refine R0 ?_;refine aK (b:=_) rfl (fun hb=>?_) (fun hb=>?_)
  ·
   refine Rg ?_;refine S0 ?_;refine HS rfl rfl fun K' hK'=>T5 ?_;refine bM (args:=[_]) (dE L a1 10 (by omega) (by omega)) rfl (by simp) ⟨rfl,rfl,rfl,rfl⟩ ?_;rintro u v' ⟨y,a2,rfl,rfl,g1,g2,g3,g4⟩;refine AX (hK' _ _ ?_);clear hK' K';iterate 3 refine S0 ?_
   refine T4 ?_;have n1: ¬(k=1∨k=3∨k=5):=by simpa using h1
   have g5:=g4 (by omega);have hk6:k=6:=by simpa using hb
   exact key ⟨k,IntKind.i64.wrap (1+y),0,[]⟩ a2 _ _ _ (by rw[hw3 y g2 (by omega),eN,if_neg n1,if_neg n4,if_neg n2,if_pos hk6];simp[inB];omega) (by omega) (fF)
  have n6: ¬k=6:=by simpa using hb
  refine R0 ?_;refine aK (b:=_) rfl (fun hb=>?_) (fun hb=>?_)
  ·
   refine Rg ?_;refine S0 ?_;refine HS rfl rfl fun K' hK'=>T5 ?_;refine bM (args:=[_]) (dE L a1 30 (by omega) (by omega)) rfl (by simp) ⟨rfl,rfl,rfl,rfl⟩ ?_;rintro u v' ⟨y,a2,rfl,rfl,g1,g2,g3,g4⟩;refine AX (hK' _ _ ?_);clear hK' K';iterate 2 refine S0 ?_
   refine T4 ?_;have n1: ¬(k=1∨k=3∨k=5):=by simpa using h1
   have g5:=g4 (by omega);have hk7:k=7:=by simpa using hb
   exact key ⟨k,y,0,[]⟩ a2 _ _ _ (by rw[eN,if_neg n1,if_neg n4,if_neg n2,if_neg n6,if_pos hk7,rZ];simp[inB];omega) (by omega) (fF)
  refine aM (T3 ?_);have n1: ¬(k=1∨k=3∨k=5):=by simpa using h1
  have n7: ¬k=7:=by simpa using hb
  have hk8:k=8:=by omega
  exact key ⟨k,0,0,[]⟩ a1 _ _ _ (by rw[eN,if_neg n1,if_neg n4,if_neg n2,if_neg n6,if_neg n7,if_pos hk8];rfl) (by omega) (fF)
 refine R0 ?_;refine aK (b:=_) rfl (fun hb=>?_) (fun hb=>?_)
 · refine aM (T3 ?_);exact key2 (k==1) _ _ _ (by rw[hb];rfl) (aO (by omega) (by simp[aX,fin_at,finA_at,upd_at,HV.men,HV.menL,HV.norm,HV.toC,HV.toCL,Rq.cv,rq0]) (by simp[aY,fob_at,upd_at,none0_at,bO,HO.men,HV.men,HV.menL,HV.norm,HV.toC,HV.toCL,Rq.cv,rq0]))
 have h1:=hb;refine R0 ?_;refine aK (b:=_) rfl (fun hb=>?_) (fun hb=>?_)
 · refine aM (T3 ?_);exact key2 (k==3) _ _ _ (by rw[h1,hb];rfl) (aO (by omega) (by simp[aX,fin_at,finA_at,upd_at,HV.men,HV.menL,HV.norm,HV.toC,HV.toCL,Rq.cv,rq0]) (by simp[aY,fob_at,upd_at,none0_at,bO,HO.men,HV.men,HV.menL,HV.norm,HV.toC,HV.toCL,Rq.cv,rq0]))
 have h1':=hb;refine aE (by kernel_rfl) ?_;simp only[↓sP,sA,tyS,simprocAttr];exact key2 (k==5) _ _ _ (by rw[h1,h1'];rfl) (aO (by omega) (by simp[aX,fin_at,finA_at,upd_at,HV.men,HV.menL,HV.norm,HV.toC,HV.toCL,Rq.cv,rq0]) (by simp[aY,fob_at,upd_at,none0_at,bO,HO.men,HV.men,HV.menL,HV.norm,HV.toC,HV.toCL,Rq.cv,rq0]))
def ShN (T:List Nd):Prop:= ∀n∈T,n.q.t.length<2^63
theorem ShN.set {T:List Nd}(h:ShN T)(i:Nat){x:Nd}(hx:x.q.t.length<2^63):ShN (T.set i x):=fun n hn=>by
 rcases List.mem_or_eq_of_mem_set hn with h1|rfl
 · exact h n h1
 exact hx
theorem cC1 (n:Nat):HV.ren (sub [] n) (.ptr 0 0)= .ptr n 0:=by simp[HV.ren,sub]
theorem bP0 (n:Nat)(ob:Ob)(t:TypeId)(v:CV):jD (sub [] n) ob 0 [.box t (.c v)]=upd ob n (some (.box t (.c v))):=by simp[jD,sub,HO.ren,HV.ren]
def aB :Nat→Nat
 |0=>4
 |d+1=>8+3*aB d
theorem aU5 : ∀d,d≤3→aB d≤400:=by decide
theorem cL9 : ∀d,d≤3→4≤aB d:=by decide
theorem cQ3 {d n:Nat}(hd:d≤3){p:Nat×Nat}(h:p∈pos d n):p.1≤60:=by
 rcases Nat.lt_or_ge n 9 with hn|hn
 ·
  have key: ∀d,d<4→ ∀n,n<9→ ∀p∈pos d n,p.1≤60:=by decide+kernel
  exact key d (by omega) n hn p h
 cases d with
 |zero=>simp[pos]at h;subst h;simp
 |succ d=>
  rw[pos,pC,if_neg (by omega)]at h;simp at h;subst h;simp
theorem aU6 {d n:Nat}{t:List Nd}(h:Made d n t)(hd:d≤3):t.length≤60:=cQ3 hd h.pos
theorem aU7 {ob:Ob}{L:List Int}{a d m a':Nat}{T t:List Nd}{X:List CV}(h0:ob 0=some (.box 76 (.c (tp L a'))))(h1:ob 1=some (.row 89 7 X))(hm:m=(T++t).length)(hX:X=(T++t).map Nd.cv)(hM:Made d T.length t)(ha:a'≤a+aB d):
  iR 2 (.own 1 m) ob (fun r ob'=> ∃os',ob'=lst os'∧(2≤os'.length∧os'.length≤2+4)∧ ∃(t:List Nd) (a':Nat),r= .own 1 (T++t).length∧os'=[.box 76 (.c (tp L a')),.row 89 7 ((T++t).map Nd.cv)]∧Made d T.length t∧a'≤a+aB d):=by
 subst hm hX;exact gU [] [] (.own 1 (T++t).length) [.box 76 (.c (tp L a')),.row 89 7 ((T++t).map Nd.cv)] rfl (by simp[HV.men]) ⟨⟨by simp[HO.men,HV.men],by simp,_,h0,by simp[HO.close,HV.close,HO.ren,HV.ren,HV.norm,aO8,HV.toC,tp,CV.denil,CV.denilL,denilL_int]⟩,⟨by simp[HO.men],by simp,_,h1,rfl⟩,trivial⟩ rfl List.nodup_nil (by simp) (by simp) ⟨t,a',rfl,rfl,hM,ha⟩
theorem cC2 (n:Nat)(ob:Ob)(e:TypeId)(sz:Nat)(v:CV)(L:List CV)(t:TypeId):jD (sub [0,1] n) ob 0 [.box t (.c v),.row e sz L]=upd (upd ob 0 (some (.box t (.c v)))) 1 (some (.row e sz L)):=rfl
theorem cJ9 (n m:Nat):HV.ren (sub [0,1] n) (.own 1 m)= .own 1 m:=rfl
theorem cU8 (L:List Int)(a:Nat)(T:List Nd):lst [.box 76 (.c (tp L a)),.row 89 7 (T.map Nd.cv)]=fob [(0,.box 76 (.c (tp L a))),(1,.row 89 7 (T.map Nd.cv))]:=by
 funext i
 match i with
 |0=>rfl
 |1=>rfl
 |i+2=>simp[lst,fob,upd]
abbrev cX3 (L:List Int)(a d:Nat)(T:List Nd)(r:HV)(os':List HO):Prop:=
 ∃(t:List Nd) (a':Nat),r= .own 1 (T++t).length∧os'=[.box 76 (.c (tp L a')),.row 89 7 ((T++t).map Nd.cv)]∧Made d T.length t∧a'≤a+aB d
theorem cQ4 (d:Nat): ∀(L:List Int) (a:Nat) (T:List Nd),d≤3→a+aB d<2^38→0<T.length→T.length<2^38→
  HGe Tryz.prog 36 [.ptr 0 0,.own 1 T.length,.c (.int .i64 d)] [.box 76 (.c (tp L a)),.row 89 7 (T.map Nd.cv)] (cX3 L a d T):=by
 induction d using Nat.strongRecOn with
 |ind d ih=>?_
 intro L a T hd ha hT0 hTl;refine bI (args:=[.ptr 0 0,.own 1 T.length,.c (.int .i64 d)]) Tryz.func36 rfl (by kernel_rfl) (eZ rfl (by simp[dS,HO.men,HV.men,HV.menL]) (by simp[HV.menL,HV.men])) (Nat.le_of_ble_eq_true rfl) ?_;show Hw _ _ 2 _ _ _ (lst _) 2;rw[cU8];have hab:=aU5 d hd;have hw1: ∀x:Int,0≤x→x<100→IntKind.i64.wrap (1+x)=1+x:=fun x h1 h2=>IntWalk.i64_in _ (by omega);have hw2: ∀x:Int,0≤x→x<100→IntKind.i64.wrap (2+x)=2+x:=fun x h1 h2=>IntWalk.i64_in _ (by omega);refine R0 ?_;refine aC fun K hK=>?_;refine aC fun K hK=>?_;have key: ∀(b:Bool) (a1:Nat) fr ob nx,(b=false→0<d∧T.length≤8)→a1≤a+1→Fits 2 fr ob (fin [(0,.ptr 0 0),(1,.own 1 T.length),(2,.c (.int .i64 d)),(20,.c (.bool b))]) (fob [(0,.box 76 (.c (tp L a1))),(1,.row 89 7 (T.map Nd.cv))]) 200→K fr ob nx:=by
  rintro b a1 fr ob nx hbf ha1 hf;refine hK _ _ _ (bJ hf ?_);clear hf hK K;refine aK (b:=b) rfl (fun hb=>?_) (fun hb=>?_)
  ·
   clear hbf;refine aC fun K hK=>Rg ?_;iterate 2 refine S0 ?_
   refine HS rfl rfl fun K' hK'=>T5 ?_;refine bM (args:=[]) (bG6 L a1 (by omega)) rfl (by simp) ⟨rfl,rfl,rfl,rfl⟩ ?_;rintro u v' ⟨q,a2,rfl,rfl,s1,s2⟩;refine AX (hK' _ _ ?_);clear hK' K';iterate 4 refine S0 ?_
   refine T2 (hK _ _ _ ?_);clear hK K;refine aH (RT Tryz.results36 ?_);have:=cL9 d hd;exact aU7 (t:=[⟨1,0,0,q⟩]) rfl rfl (by simp) (by simp) (aF8 s2) (by omega)
  obtain⟨hd0,hT8⟩:=hbf hb;clear hbf hb;refine aM ?_;refine T0 (hK _ _ _ ?_);clear hK K;refine aC fun K hK=>Rg ?_;refine S0 ?_;refine HS rfl rfl fun K' hK'=>T5 ?_;refine bM (args:=[_]) (dE L a1 3 (by omega) (by omega)) rfl (by simp) ⟨rfl,rfl,rfl,rfl⟩ ?_;rintro u v' ⟨x,a2,rfl,rfl,h1,h2,h3,h4⟩;refine AX (hK' _ _ ?_);clear hK' K';iterate 2 refine S0 ?_
  refine HS rfl rfl fun K' hK'=>T5 ?_;refine bM (args:=[_]) (dE L a2 3 (by omega) (by omega)) rfl (by simp) ⟨rfl,rfl,rfl,rfl⟩ ?_;rintro u v' ⟨y,a3,rfl,rfl,g1,g2,g3,g4⟩;refine AX (hK' _ _ ?_);clear hK' K';iterate 4 refine S0 ?_
  refine T2 (hK _ _ _ ?_);clear hK K;refine aC fun K hK=>?_;have key2: ∀(k c N:Int) (a4:Nat) fr ob nx,(1≤c∧c≤3)→k≠1→dB ⟨k,N,c,rq0⟩=true→a4≤a+4→Fits 2 fr ob (fin [(0,.ptr 0 0),(1,.own 1 T.length),(2,.c (.int .i64 d)),(7,.ptr 228 0)]) (fob [(0,.box 76 (.c (tp L a4))),(1,.row 89 7 (T.map Nd.cv)),(228,.box 89 (.c (Nd.cv ⟨k,N,c,rq0⟩)))]) 700→K fr ob nx:=by
   rintro k c N a4 fr ob nx ⟨hc1,hc3⟩ hk1 hnode ha4 hf;refine hK _ _ _ (bJ hf ?_);clear hf hK K;refine aC fun K hK=>Rg ?_;iterate 5 refine S0 ?_
   refine T2 (hK _ _ _ ?_);clear hK K;refine aC fun K hK=>?_;refine R0 ?_;refine aN ?_;refine bH (α:={w:List Nd×Nat×Nat//MadeK (d-1) T.length w.2.1 w.1∧w.2.2≤a+4+w.2.1*aB (d-1)∧(w.2.1:Int)≤c∧w.1.length≤60*w.2.1}) (fun w=>(fin [(0,.ptr 0 0),(1,.own 1 (T.length+1+w.1.1.length)),(2,.c (.int .i64 d)),(7,.ptr 228 0),(8,.c (.int .i64 w.1.2.1))],fob [(0,.box 76 (.c (tp L w.1.2.2))),(1,.row 89 7 ((T++⟨k,N,c,rq0⟩::w.1.1).map Nd.cv)),(228,.box 89 (.c (Nd.cv ⟨k,N,c,rq0⟩)))])) 2000 (fun w=>10-w.1.2.1) ⟨([],0,a4),MadeK.zero _ _,by simp only;omega,by simp only;omega,by simp⟩ (fF) ?_;rintro⟨⟨ts,j,a5⟩,i1,i2,i3,i4⟩;simp only at i1 i2 i3 i4;refine aC fun K hK=>?_;refine aC fun K hK=>Rg ?_;iterate 4 refine S0 ?_
   refine T2 (hK _ _ _ ?_);clear hK K;refine aK (b:=decide ((j:Int)<c)) rfl (fun hb=>?_) (fun hb=>?_)
   ·
    have hjc:(j:Int)<c:=by simpa using hb
    clear hb;obtain⟨M,hM⟩: ∃M,M=T++⟨k,N,c,rq0⟩::ts:=⟨_,rfl⟩;have hMl:T.length+1+ts.length=M.length:=by rw[hM];simp;omega
    rw[←hM,hMl];have hwd:IntKind.i64.wrap ((d:Int)-1)=((d-1:Nat):Int):=by rw[IntWalk.i64_in _ (by omega)];omega
    have hab1:=aU5 (d-1) (by omega);have hj3:j≤2:=by omega
    have hja:j*aB (d-1)≤2*aB (d-1):=Nat.mul_le_mul_right _ hj3;have hdd:aB d=8+3*aB (d-1):=by
     obtain⟨e,rfl⟩: ∃e,d=e+1:=⟨d-1,by omega⟩;rfl
    refine aM ?_;refine T0 (hK _ _ _ ?_);clear hK K;refine aC fun K hK=>?_;refine aN ?_;refine Rg ?_;have F:=hwd;iterate 4 refine SF ?_
    refine HS rfl rfl fun K' hK'=>T6 ?_;refine eX [0,1] (ih (d-1) (by omega) L a5 M (by omega) (by omega) (by omega) (by omega)) rfl ⟨rfl,rfl,trivial⟩ (by simp) (by simp) ⟨rfl,rfl,rfl,rfl⟩ (by simp[dS,HO.men,HV.men,HV.menL]) (by simp[HV.menL,HV.men]) ?_;rintro r os' ⟨t,a6,rfl,rfl,ht,ha6⟩;rw[cC2,cJ9];refine AX (hK' _ _ ?_);clear hK' K';refine SF ?_;refine T2 (hK _ _ _ ?_);clear hK K;refine aE (by kernel_rfl) ?_;refine TQ (IntWalk.i64_in ((j:Int)+1) (by omega)) ?_;have htl:=aU6 ht (by omega);have hnx:=i1.next (t:=t) (by rw[hMl];exact ht);refine⟨⟨(ts++t,j+1,a6),hnx,by simp only[Nat.add_mul,Nat.one_mul];omega,by simp only;omega,by simp only[List.length_append];omega⟩,?_,?_⟩
    ·
     have e1:M++t=T++⟨k,N,c,rq0⟩::(ts++t):=by rw[hM];simp
     have e2:(M++t).length=T.length+1+(ts++t).length:=by rw[e1];simp;omega
     simp only[];rw[←e1,←e2];exact fF
    show 10-(j+1)<10-j;omega
   have hjc:(j:Int)=c:=by simp at hb;omega
   have hj3:j≤3:=by omega
   have hja:j*aB (d-1)≤3*aB (d-1):=Nat.mul_le_mul_right _ hj3;obtain⟨d',rfl⟩: ∃d',d=d'+1:=⟨d-1,by omega⟩;simp only[Nat.add_sub_cancel]at i1 i2 hja;have hm:=i1.fin (x:=⟨k,N,c,rq0⟩) hT8 hnode hk1 hjc.symm (by omega) (by omega);refine aZ (T3 ?_);clear hK K;refine AX (hK _ _ _ ?_);clear hK K;refine R0 ?_;refine aH (RT Tryz.results36 ?_);exact aU7 (t:=⟨k,N,c,rq0⟩::ts) rfl rfl (by simp;omega) rfl hm (by simp only[aB];omega)
  have hx3:=h4 (by omega);have hy3:=g4 (by omega);obtain⟨k,hk⟩: ∃k,k=IntKind.i64.wrap (2+x):=⟨_,rfl⟩;obtain⟨c,hc⟩: ∃c,c=IntKind.i64.wrap (1+y):=⟨_,rfl⟩;have hkx:k=2+x:=by rw[hk,hw2 x h2 (by omega)]
  have hcy:c=1+y:=by rw[hc,hw1 y g2 (by omega)]
  rw[←hk,←hc];clear hk hc h3 h4 g3 g4;refine R0 ?_;refine aK (b:=_) rfl (fun hb=>?_) (fun hb=>?_)
  ·
   refine Rg ?_;iterate 3 refine S0 ?_
   refine HS rfl rfl fun K' hK'=>T5 ?_;refine bM (args:=[_]) (dE L a3 c (by omega) (by omega)) rfl (by simp) ⟨rfl,rfl,rfl,rfl⟩ ?_;rintro u v' ⟨z,a4,rfl,rfl,f1,f2,f3,f4⟩;refine AX (hK' _ _ ?_);clear hK' K';iterate 3 refine S0 ?_
   refine T4 ?_;have f5:=f4 (by omega);have hk4:k=4:=by simpa using hb
   exact key2 k c (IntKind.i64.wrap (1+z)) a4 _ _ _ ⟨by omega,by omega⟩ (by omega) (by rw[hw1 z f2 (by omega),dB,if_neg (by simp only;omega),if_neg (by simp only;omega),if_pos hk4];simp[inB,fZ];omega) (by omega) (aO (by omega) (by simp[aX,fin_at,finA_at,upd_at,HV.men,HV.menL,HV.norm,HV.toC,HV.toCL,Nd.cv,rq0]) (by simp[aY,fob_at,upd_at,none0_at,bO,HO.men,HV.men,HV.menL,HV.norm,HV.toC,HV.toCL,Nd.cv,rq0]))
  refine aM (T3 ?_);have hk4: ¬k=4:=by simpa using hb
  exact key2 k c 0 a3 _ _ _ ⟨by omega,by omega⟩ (by omega) (by rw[dB,if_neg (by simp only;omega),if_pos (by simp only;omega)];simp[inB,fZ];omega) (by omega) (aO (by omega) (by simp[aX,fin_at,finA_at,upd_at,HV.men,HV.menL,HV.norm,HV.toC,HV.toCL,Nd.cv,rq0]) (by simp[aY,fob_at,upd_at,none0_at,bO,HO.men,HV.men,HV.menL,HV.norm,HV.toC,HV.toCL,Nd.cv,rq0]))
 refine Rg ?_;iterate 3 refine S0 ?_
 refine aG 10 rfl (fun h1_10=>?_) (fun h1_10=>?_)
 ·
  have F:=h1_10;iterate 9 refine SF ?_
  refine T4 ?_;exact key true a _ _ _ (fun h=>by cases h) (by omega) (fF)
 have F:=h1_10;refine SF ?_;refine aF (g:=some (11,false)) rfl rfl fun K' hK'=>T6 ?_;refine bM (args:=[_]) (dE L a 3 (by omega) (by omega)) rfl (by simp) ⟨rfl,rfl,rfl,rfl⟩ ?_;rintro u v' ⟨x,a1,rfl,rfl,h1,h2,h3,h4⟩;refine AX (hK' _ _ ?_);clear hK' K';iterate 3 refine SF ?_
 refine aG 14 rfl (fun h1_14=>?_) (fun h1_14=>?_)
 ·
  have F:=aI h1_10 h1_14;iterate 4 refine SF ?_
  refine T4 ?_;exact key true a1 _ _ _ (fun h=>by cases h) h1 (fF)
 have F:=aI h1_10 h1_14;iterate 4 refine SF ?_
 refine aG 19 rfl (fun h1_19=>?_) (fun h1_19=>?_)
 · simp only[h1_19];refine T4 ?_;exact key true a1 _ _ _ (fun h=>by cases h) h1 (fF)
 simp only[h1_19];refine T4 ?_;exact key false a1 _ _ _ (fun _=>⟨by simp at h1_10;omega,by simp at h1_19;omega⟩) h1 (fF)
end Go.Proofs.YthedbjfipmkpiaaGreatDoor
