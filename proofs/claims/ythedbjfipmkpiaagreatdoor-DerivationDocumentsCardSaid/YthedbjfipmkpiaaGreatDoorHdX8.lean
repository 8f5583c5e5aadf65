/- Part of a proof: walks of functions of the program, by contracts, and the rules they use. By an AI agent. -/
import Derived.Test.YthedbjfipmkpiaaGreatDoorPl03
import Derived.Test.YthedbjfipmkpiaaGreatDoorHdSb
import Derived.Test.YthedbjfipmkpiaaGreatDoorHdUl
import Derived.Shelf.SlSortCmp.InsertionK
import Derived.Test.YthedbjfipmkpiaaGreatDoorPl18e
import Derived.Deep.QuietTactic
import Derived.BigQuiet
import Derived.Test.YthedbjfipmkpiaaGreatDoorChecked
import Derived.Shelf.SlSortCmp.NoneTotal
import Derived.Ground.SlsfProg
import Derived.Test.YthedbjfipmkpiaaGreatDoorHdW3
import Derived.Test.YthedbjfipmkpiaaGreatDoorPl28g
import Derived.Test.YthedbjfipmkpiaaGreatDoorHdU5
import Derived.Test.YthedbjfipmkpiaaGreatDoorHdTf
import Derived.Test.YthedbjfipmkpiaaGreatDoorHdSq
import Derived.Test.YthedbjfipmkpiaaGreatDoorHdV1
import Derived.Test.YthedbjfipmkpiaaGreatDoorHdW9
import Derived.Test.YthedbjfipmkpiaaGreatDoorRows
set_option linter.unusedSimpArgs false
set_option linter.unusedVariables false
set_option linter.defProp false
namespace Go.Proofs.YthedbjfipmkpiaaGreatDoor
open Go Go.Hl Go.Pl Go.Sort Go.RowKit
set_option maxRecDepth 100000
theorem aV6 (x y:Dig)(b c:Nat)(W:World)(h:(callFunc 90 #[.slice (some ⟨b,0,none⟩) 32 32,.slice (some ⟨c,0,none⟩) 32 32]).run Tryz.prog W= .ok (.value (.int .i64 (jP x.1 y.1))) W):
    Calls Tryz.prog 56 #[.slice (some ⟨b,0,none⟩) 32 32,.slice (some ⟨c,0,none⟩) 32 32] W fun e w'=>e= .returned (.int .i64 (jP x.1 y.1))∧w'=W:=by
  generalize jP x.1 y.1=r at h⊢
  go_enter Tryz.func56,Tryz.ntmps56
  go_wp2_with fail
  go_ret
  exact⟨rfl,rfl⟩
theorem aP6 (x y:Dig)(W:World)
    (hc: ∀W':World,W'.heap=((W.alloc (Obj.cells (dW x).toArray 44)).alloc (Obj.cells (dW y).toArray 44)).heap→Calls Tryz.prog 56 #[.slice (some ⟨W.heap.size,0,none⟩) 32 32,.slice (some ⟨W.heap.size+1,0,none⟩) 32 32] W' fun e w'=>e= .returned (.int .i64 (jP x.1 y.1))∧w'=W'):
    Calls Tryz.prog 55 #[.agg (dW x).toArray,.agg (dW y).toArray] W fun e w'=>e= .returned (.int .i64 (jP x.1 y.1))∧ ∃q os',w'=grow (W.drewN q) os':=by
  go_enter Tryz.func55,Tryz.ntmps55
  go_wp2_with fail
  go_quiet (first|(go_at_call 56;refine Calls.quiet_of_same (hc _ rfl)))
  go_wp2
  go_ret
  exact⟨rfl,nq,_,by rw[alloc_eq_grow,alloc_eq_grow,grow_grow];rfl⟩
theorem aC5 {W:World}{b:Nat}{d:Dig}{t:TypeId}{ρ:Env}(hb:W.heap[b]? =some (.cells (dW d).toArray t (0,0))):RepV W ρ (fun _=>False) (.c (.slc (d.1.map u8))) (.slice (some ⟨b,0,none⟩) 32 32):=by
  refine bS ?_ rfl rfl;simp only[RepC];refine⟨some ⟨b,0,none⟩,32,dW d,1,by simp[d.2],xR.2 rfl,fun v hv=>?_,by simp[d.2],fun h=>(by cases h),fun ad h=>?_⟩
  · obtain⟨x,_,rfl⟩:=List.mem_map.1 hv;rfl
  · cases h
    refine⟨fun j u hj=>?_,fun _ h=>h⟩;have h1:(dW d).toArray[j]? =some u:=by simpa using hj
    rw[show(⟨b,0,none⟩:Addr).add j=⟨b,j,none⟩from by unfold Addr.add;split<;>simp_all];simp only[World.cell?,hb,h1,Option.isSome_none,Bool.false_eq_true,if_false]
theorem aP7 (x y:Dig)(W:World):Calls Tryz.prog 55 #[.agg (dW x).toArray,.agg (dW y).toArray] W fun e w'=>e= .returned (.int .i64 (jP x.1 y.1))∧ ∃q os',w'=grow (W.drewN q) os':=
  aP6 x y W fun W' hW=>aV6 x y _ _ W' (by
    have h1:W'.heap[W.heap.size]? =some (.cells (dW x).toArray 44 (0,0)):=by
      rw[hW];simp only[World.alloc,Array.getElem?_push,Array.size_push];rw[if_neg (by omega),if_true]
    have h2:W'.heap[W.heap.size+1]? =some (.cells (dW y).toArray 44 (0,0)):=by
      rw[hW];simp only[World.alloc,Array.getElem?_push,Array.size_push];rw[if_true]
    have hr:=bZ4 (P:=Tryz.prog) (aC5 (ρ:=fun _=>none) h1) (aC5 (ρ:=fun _=>none) h2);rw[run_callFunc_extern Tryz.func90 (by kernel_rfl) (by kernel_rfl) (by kernel_rfl) (e:=Extern.BytealgCompare.compare) (by kernel_rfl),hr];rfl)
theorem aV7 (blk size:Nat)(w:World):CmpLays Tryz.prog 55 #[] dW 32 (fun x y=>jP x.1 y.1) blk 0 size w:=fun _ _ _ _ x y=>aP7 x y _
theorem bW6 :SWO (ltOf fun x y:Dig=>jP x.1 y.1):=by
  have e: ∀x y:Dig,ltOf (fun x y:Dig=>jP x.1 y.1) x y=true↔x.1<y.1:=fun x y=>by
    rw[←uP];show decide (jP x.1 y.1<0)=true↔slt x.1 y.1=true;unfold jP;by_cases h:slt x.1 y.1=true
    · simp[h]
    · have h':slt x.1 y.1=false:=by simpa using h
      rw[h'];by_cases h2:x.1=y.1<;>simp[h2]
  have e2: ∀x y:Dig,ltOf (fun x y:Dig=>jP x.1 y.1) x y=false↔y.1≤x.1:=fun x y=>by
    rw[←List.not_lt,←e,Bool.not_eq_true]
  refine⟨fun x=>(e2 x x).2 (List.le_refl _),fun x y z h1 h2=>(e x z).2 (List.lt_trans ((e x y).1 h1) ((e y z).1 h2)),fun x y z h1 h2=>(e2 x z).2 (List.le_trans ((e2 y z).1 h2) ((e2 x y).1 h1))⟩
end Go.Proofs.YthedbjfipmkpiaaGreatDoor
namespace Go.Hl
open Go Go.RowKit Go.Sort Go.Pl Go.Proofs
def aV8 (P:Program)(lt:Dig→Dig→Bool)(f g:FuncId)(e:TypeId)(l:List Dig):Prop:=
 HFn P f [.own 0 l.length,.c (.fn g)] 1 (fob [(0,.row e 32 (l.map dg))]) (fun r ob'=>r= .tup []∧ ∃l':List Dig,l'.Perm l∧l'.Pairwise (fun a b=>lt b a=false)∧ob'=fob [(0,.row e 32 (l'.map dg))])
variable {l:List Dig}{e:TypeId}{lt:Dig→Dig→Bool}{P:Program}
theorem bK2 {f g:FuncId}(hok:eE P f=true)
  (hc: ∀(blk cap:Nat) (w:World),HoldsK dW 32 w blk 0 l.toArray→blk<w.heap.size→Calls P f #[.slice (some ⟨blk,0,none⟩) l.length cap,.func (.func g) #[] #[]] w fun x w'=>x= .returned (.tuple #[])∧ ∃(d':Array Dig) (n:Nat) (os:Array Obj),PermIn 0 l.length l.toArray d'∧SortedIn lt 0 l.length d'∧w'=sortWorldK dW 32 w blk 0 n d' os)
  (hc0: ∀(cap:Nat) (w:World),Calls P f #[.slice none 0 cap,.func (.func g) #[] #[]] w fun x w'=>x= .returned (.tuple #[])∧w'=w):aV8 P lt f g e l:=by
 refine⟨qD hok,fun w ρ X xs hS hA hX=>Does.of hok ?_⟩;obtain⟨h,ys,hρ,hL,hcs,how⟩:=hS.objs 0 (.row e 32 (l.map dg)) rfl;have hys:=lI.1 hL;subst hys;have hlen:hlen h=l.length:=by have:=ownsRow_size how;simpa using this
 have hargs:xs=[h,.func (.func g) #[] #[]]:=by
  rw[bP]at hA;obtain⟨y,zs,rfl,hy,hz⟩:=hA;rw[bP]at hz;obtain⟨y2,zs2,rfl,hy2',hz2⟩:=hz;simp only[RepHV]at hz2;subst hz2;obtain⟨hy1,hy2⟩:=hy;have hag:Value.isAgg' y=false:=by rw[←hy2];rfl
  rw[cells_single hag]at hy1;simp only[RepH,List.cons.injEq,and_true]at hy1;obtain⟨x,rfl,_,hx⟩:=hy1;obtain⟨hz1,hz2⟩:=hy2';have hag2:Value.isAgg' y2=false:=by rw[←hz2];rfl
  rw[cells_single hag2]at hz1;simp only[RepH,RepC,List.cons.injEq,and_true]at hz1;rw[(hx h hρ).2 hlen,hz1]
 subst hargs;have hrt: ∀w':World,RepV w' ρ (Owned ρ X) (.tup []) (.tuple #[]):=fun w'=>by
  refine⟨?_,rfl⟩;simp only[RepH];exact⟨[],rfl,by simp[RepHV]⟩
 rcases how.2 with⟨rfl,hz⟩|⟨g',cap,cur,rfl,hg0,hg,hcap,hmax,hcsz,htake⟩
 ·
  have:l=[]:=List.eq_nil_of_length_eq_zero (by simpa using hz);subst this;refine(hc0 0 w).mono ?_;rintro ex w' ⟨rfl,rfl⟩;refine⟨.tup [],_,ρ,.tuple #[],rfl,⟨rfl,[],List.Perm.refl _,List.Pairwise.nil,rfl⟩,⟨hrt _,by simpa using hS,by simp[HV.men,HV.menL],fun i o ho=>?_,Stay2.refl _ _,Moves.refl _ _⟩⟩;simp only[fob_at,fob_nil]at ho;split at ho
  · rename_i e0;subst e0;cases ho;exact⟨by omega,trivial⟩
  · cases ho
 ·
  simp only[List.length_map]at hcap hcsz htake;have hgs:g'<w.heap.size:=(Array.getElem?_eq_some_iff.1 hg).1;have hH:HoldsK dW 32 w g' 0 l.toArray:=fun j hj=>by
   have hj':j<l.length*32:=by simpa using hj
   refine⟨?_,by simp[World.frozen?,hg]⟩;have e1:cur.toList[j]? =some (flatK dW 32 l.toArray)[j]! :=by
    have e0:(l.flatMap dW)[j]? =some (flatK dW 32 l.toArray)[j]! :=by
     rw[←xS,Array.getElem?_toList,Array.getElem?_eq_getElem (by simpa using hj'),getElem!_pos _ j (by simpa using hj')]
    have:(cur.toList.take (l.length*32))[j]? =(l.flatMap dW)[j]? :=by rw[htake]
    rwa [List.getElem?_take,if_pos hj',e0]at this
   rw[Array.getElem?_toList]at e1;simp only[World.cell?,hg,Nat.zero_add,e1,Option.isSome_none,Bool.false_eq_true,if_false,id]
  simp only[List.length_map];refine(hc g' cap w hH hgs).mono ?_;rintro ex w' ⟨rfl,d',n,os,⟨hps,-,hpp⟩,hso,rfl⟩;obtain⟨S,rfl⟩: ∃S:List Dig,d'=S.toArray:=⟨d'.toList,by simp⟩;have hSl:S.length=l.length:=by simpa using hps
  have hperm:S.Perm l:=by
   have h1:(S.toArray.extract 0 l.length).toList=S:=by rw[←hSl];simp
   have h2:(l.toArray.extract 0 l.length).toList=l:=by simp
   rwa [h1,h2]at hpp
  have hsrt:S.Pairwise (fun a b=>lt b a=false):=List.pairwise_iff_getElem.2 fun i j hi hj hij=>by
   have h1:=hso i j (Nat.zero_le _) hij (by omega);simpa[getElem!_pos,hi,hj]using h1
  have hother: ∀b,b<w.heap.size→b≠g'→(sortWorldK dW 32 w g' 0 n S.toArray os).heap[b]? =w.heap[b]? :=fun b hb hne=>by
   simp only[sortWorldK,putRowK,grow,putRow,mapBlock,Sort.ahead];rw[Array.getElem?_append_left (by simpa using hb),Array.getElem?_modify,if_neg (fun h=>hne h.symm)]
  have hthis:(sortWorldK dW 32 w g' 0 n S.toArray os).heap[g']? =some (.cells (putCells id 0 (flatK dW 32 S.toArray) cur) e (0,0)):=by
   simp only[sortWorldK,putRowK,grow,putRow,mapBlock,Sort.ahead];rw[Array.getElem?_append_left (by simpa using hgs),Array.getElem?_modify,if_pos rfl,hg];rfl
  have hs2:Stay2 w (Own ρ) (sortWorldK dW 32 w g' 0 n S.toArray os) (Own ρ):=⟨fun b hb hno=>hother b hb (fun e'=>hno ⟨0,_,hρ,by rw[e'];rfl⟩),fun _ h=> .inl h,by simp[sortWorldK,putRowK,grow,putRow,mapBlock,Sort.ahead],rfl,rfl,rfl⟩;refine⟨.tup [],_,ρ,.tuple #[],rfl,⟨rfl,S,hperm,hsrt,rfl⟩,⟨hrt _,⟨fun i o ho=>?_,fun i hi=>hS.none i ?_,hS.apart,hS.xb⟩,by simp[HV.men,HV.menL],fun i o ho=>?_,hs2,Moves.refl _ _⟩⟩
  ·
   simp only[fob_at,fob_nil]at ho;split at ho
   ·
    rename_i e0;subst e0;cases ho;refine⟨_,S.flatMap dW,hρ,lI.2 rfl,fun v hv=>?_,by rw[rM,List.length_map],.inr ⟨g',cap,putCells id 0 (flatK dW 32 S.toArray) cur,by simp[hSl],Nat.zero_le _,hthis,by simp[hSl];exact hcap,hmax,?_,?_⟩⟩
    · obtain⟨s,_,rfl⟩:=List.mem_map.1 hv;exact dg_cells s
    · rw[←hcsz];simp[putCells]
    · have h1:=xT (flatK dW 32 S.toArray) cur (by rw[size_flatK,hcsz];simp only[List.size_toArray,hSl];exact Nat.mul_le_mul_right _ hcap);rw[xS,size_flatK]at h1;simpa using h1
   · cases ho
  ·
   simp only[fob_at,fob_nil]at hi⊢;split at hi
   · cases hi
   · rename_i hne;rw[if_neg hne]
  ·
   simp only[fob_at,fob_nil]at ho;split at ho
   · rename_i e0;subst e0;cases ho;exact⟨by omega,trivial⟩
   · cases ho
theorem aV9 {av:List Nat}{f g:FuncId}{ob:Ob}{nid id n:Nat}{K:HV→Ob→Prop}(h:aV8 P lt f g e l)(hid:ob id=some (.row e 32 (l.map dg)))(hn:n=l.length)(hav:id∉av)
  (hfree:Free4 ob nid) (hK: ∀l':List Dig,l'.Perm l→l'.Pairwise (fun a b=>lt b a=false)→K (.tup []) (upd ob id (some (.row e 32 (l'.map dg))))):HCall P av f [.own id n,.c (.fn g)] ob nid K:=by
 have h0:sub [id] nid 0=id:=rfl;subst hn;refine⟨[id],_,_,_,h,zH (by simp[HV.menL,HV.men]),⟨by simp,by simpa using hav⟩,by simp only[HV.renL,HV.ren,h0],fun j o hj=>?_,fun r lob' hR _=>?_⟩
 ·
  simp only[fob_at,fob_nil]at hj;split at hj
  · rename_i e0;subst e0;cases hj;simpa[HO.ren]using hid
  · cases hj
 · obtain⟨rfl,l',hp,hq,rfl⟩:=hR;rw[aK2 hfree];exact hK l' hp hq
end Go.Hl
namespace Go.Proofs.YthedbjfipmkpiaaGreatDoor
open Go.RowKit Go.Sort Go.Shelf
def aP8 :Go.Shelf.Ren:=⟨fun|6=>54|15=>89|14=>88|28=>120|29=>121|20=>112|21=>113|22=>114|23=>115|24=>116|25=>117|26=>118|27=>119|46=>139|47=>140|48=>141|49=>142|50=>143|57=>165|n=>n,fun|22=>39|24=>44|25=>105|3=>3|39=>72|0=>0|53=>168|55=>135|4=>4|46=>162|45=>161|50=>81|5=>5|9=>9|66=>184|70=>188|76=>202|77=>203|n=>n,fun|n=>n⟩
theorem bB6 :Go.Proofs.SlLaysF0.n6 Tryz.prog aP8:={
  mixed:=by kernel_rfl
  f6:=⟨Tryz.f54.name,by decide,Tryz.func54.trans (congrArg some (by kernel_rfl))⟩
  f14:=⟨Tryz.f88.name,by decide,Tryz.func88.trans (congrArg some (by kernel_rfl))⟩
  f15:=Tryz.func89.trans (congrArg some (by kernel_rfl))
  f20:=⟨Tryz.f112.name,by decide,Tryz.func112.trans (congrArg some (by kernel_rfl))⟩
  f21:=⟨Tryz.f113.name,by decide,Tryz.func113.trans (congrArg some (by kernel_rfl))⟩
  f22:=⟨Tryz.f114.name,by decide,Tryz.func114.trans (congrArg some (by kernel_rfl))⟩
  f23:=⟨Tryz.f115.name,by decide,Tryz.func115.trans (congrArg some (by kernel_rfl))⟩
  f24:=⟨Tryz.f116.name,by decide,Tryz.func116.trans (congrArg some (by kernel_rfl))⟩
  f25:=⟨Tryz.f117.name,by decide,Tryz.func117.trans (congrArg some (by kernel_rfl))⟩
  f26:=⟨Tryz.f118.name,by decide,Tryz.func118.trans (congrArg some (by kernel_rfl))⟩
  f27:=⟨Tryz.f119.name,by decide,Tryz.func119.trans (congrArg some (by kernel_rfl))⟩
  f28:=Tryz.func120.trans (congrArg some (by kernel_rfl))
  f29:=Tryz.func121.trans (congrArg some (by kernel_rfl))
  f46:=⟨Tryz.f139.name,by decide,Tryz.func139.trans (congrArg some (by kernel_rfl))⟩
  f47:=Tryz.func140.trans (congrArg some (by kernel_rfl))
  f48:=Tryz.func141.trans (congrArg some (by kernel_rfl))
  f49:=⟨Tryz.f142.name,by decide,Tryz.func142.trans (congrArg some (by kernel_rfl))⟩
  f50:=⟨Tryz.f143.name,by decide,Tryz.func143.trans (congrArg some (by kernel_rfl))⟩
  f57:=⟨Tryz.f165.name,by decide,Tryz.func165.trans (congrArg some (by kernel_rfl))⟩
  t0:=Tryz.underlying0
  a0:=Tryz.isAgg0
  z0:=Tryz.sizeOf0
  v0:=Tryz.zeroValue0
  t3:=Tryz.underlying3
  a3:=Tryz.isAgg3
  z3:=Tryz.sizeOf3
  v3:=Tryz.zeroValue3
  t4:=Tryz.underlying4
  a4:=Tryz.isAgg4
  z4:=Tryz.sizeOf4
  v4:=Tryz.zeroValue4
  t5:=Tryz.underlying5
  a5:=Tryz.isAgg5
  z5:=Tryz.sizeOf5
  v5:=Tryz.zeroValue5
  t9:=Tryz.underlying9
  a9:=Tryz.isAgg9
  z9:=Tryz.sizeOf9
  v9:=Tryz.zeroValue9
  t22:=Tryz.underlying39
  a22:=Tryz.isAgg39
  z22:=Tryz.sizeOf39
  v22:=Tryz.zeroValue39
  t25:=Tryz.underlying105
  a25:=Tryz.isAgg105
  z25:=Tryz.sizeOf105
  v25:=Tryz.zeroValue105
  t39:=Tryz.underlying72
  a39:=Tryz.isAgg72
  z39:=Tryz.sizeOf72
  v39:=Tryz.zeroValue72
  t45:=Tryz.underlying161
  a45:=Tryz.isAgg161
  z45:=Tryz.sizeOf161
  v45:=Tryz.zeroValue161
  t46:=Tryz.underlying162
  a46:=Tryz.isAgg162
  z46:=Tryz.sizeOf162
  v46:=Tryz.zeroValue162
  t50:=Tryz.underlying81
  a50:=Tryz.isAgg81
  z50:=Tryz.sizeOf81
  v50:=Tryz.zeroValue81
  t53:=Tryz.underlying168
  a53:=Tryz.isAgg168
  z53:=Tryz.sizeOf168
  v53:=Tryz.zeroValue168
  t55:=Tryz.underlying135
  a55:=Tryz.isAgg135
  z55:=Tryz.sizeOf135
  v55:=Tryz.zeroValue135
  t66:=Tryz.underlying184
  a66:=Tryz.isAgg184
  z66:=Tryz.sizeOf184
  v66:=Tryz.zeroValue184
  t70:=Tryz.underlying188
  a70:=Tryz.isAgg188
  z70:=Tryz.sizeOf188
  v70:=Tryz.zeroValue188
  t76:=Tryz.underlying202
  a76:=Tryz.isAgg202
  z76:=Tryz.sizeOf202
  v76:=Tryz.zeroValue202
  t77:=Tryz.underlying203
  a77:=Tryz.isAgg203
  z77:=Tryz.sizeOf203
  v77:=Tryz.zeroValue203}
theorem bW7 (l:List Pl.Dig)(hl:l.length<2^40):Hl.aV8 Tryz.prog (ltOf fun x y:Pl.Dig=>Hl.jP x.1 y.1) 54 55 44 l:=
  Hl.bK2 (by kernel_rfl) (fun blk cap w hH hb=>(AnyQ.slices_SortFunc bB6 32 Tryz.isAgg44 Tryz.sizeOf44 Hl.dW Hl.lH (fun x v hv=>by obtain⟨b,_,rfl⟩:=List.mem_map.1 hv;rfl) (fun x y=>Hl.jP x.1 y.1) bW6 55 #[] blk 0 cap l.toArray w
    (enters_of Tryz.func55 (by kernel_rfl) rfl) (aV7 blk _ w) hH hb (by simp;omega)).mono (fun _ _ ⟨h1,d',n,os,h2,h2',h3⟩=>⟨h1,d',n,os,by simpa using h2,by simpa using h2',h3⟩)) (fun cap w=>AnyF.slices_SortFunc_none bB6 none cap _ w)
end Go.Proofs.YthedbjfipmkpiaaGreatDoor
namespace Go.Proofs.YthedbjfipmkpiaaGreatDoor
open Go Go.Hl Go.Pl
set_option maxRecDepth 10000
set_option maxHeartbeats 8000000
theorem pV {X:List Ln}{i:Nat}(h:i<X.length):dD (X.take (i+1))=dD (X.take i)++X[i].d:=by
 unfold dD;rw[List.take_succ_eq_append_getElem h,List.flatMap_append];simp only[List.flatMap_cons,List.flatMap_nil,List.append_nil]
theorem docsL_le (X:List Ln)(i:Nat):(dD (X.take i)).length≤(dD X).length:=by
 have h:dD X=dD (X.take i)++dD (X.drop i):=by
  unfold dD;rw[←List.flatMap_append,List.take_append_drop]
 rw[h,List.length_append];omega
open Go.Sort Go.RowKit Go.Shelf in
theorem cK1 (a b:Dig):ltOf (fun x y:Dig=>jP x.1 y.1) a b=slt a.1 b.1:=by
 show decide (jP a.1 b.1<0)=slt a.1 b.1;unfold jP;by_cases h:slt a.1 b.1=true
 · simp[h]
 have h':slt a.1 b.1=false:=by simpa using h
 rw[h'];by_cases h2:a.1=b.1<;>simp[h2]
theorem bB7 (d:Dv)(hl:d.l.length<2^38)(hd:(dD d.l).length<2^38):dB Tryz.prog 24 [d.cv] (fun v=> ∃K:List Dig,v= .slc (K.map dg)∧dws K=bU4 d.l):=by
 refine bD Tryz.func24 rfl (by kernel_rfl) (bH _) (Nat.le_of_ble_eq_true rfl) ?_;refine aE fun K hK=>aD (by kernel_rfl) ?_;simp (maxSteps:=4000000) only[↓sP,sA,tyS,simprocAttr];repeat refine AI ?_
 refine hK _ _ _ ?_;clear hK K;refine aE fun K hK=>aD (by kernel_rfl) ?_;simp (maxSteps:=4000000) only[↓sP,sA,tyS,simprocAttr];repeat refine AI ?_
 refine hK _ _ _ ?_;clear hK K;refine aE fun K hK=>?_;refine aE fun K hK=>aD (by kernel_rfl) ?_;simp only[sR,simprocAttr];iterate 4
  (refine aC (g:=none) rfl rfl fun K' hK'=>?_;simp only[sH,↓sP,sA,tyS,simprocAttr];(repeat refine AI ?_);refine hK' _ _ ?_;clear hK' K')
 simp only[sE,↓reduceIte,simprocAttr];repeat refine AI ?_
 refine hK _ _ _ ?_;clear hK K;refine aP ?_;refine jJ 3 0 44 32 rfl rfl rfl rfl ?_;refine bR (α:={i:Nat//i≤d.l.length}) (fun i=>(fin [(3,.own 28 (dD (d.l.take i.1)).length),(7,.c (.slc (d.l.map Ln.cv))),(8,.c (.int .i64 d.l.length)),(9,.c (.int .i64 i.1))],fob [(28,.row 44 32 ((dD (d.l.take i.1)).map dg))])) 200 (fun i=>d.l.length-i.1) ⟨0,by omega⟩ (aI (by omega) (by simp[aY,fin_at,finA_at,upd_at,HV.men,HV.menL,HV.norm,HV.toC,HV.toCL,dD]) (by simp[bB,fob_at,upd_at,none0_at,bN,HO.men,HV.men,HV.menL,HV.norm,HV.toC,HV.toCL,dD])) ?_;rintro⟨i,hi⟩;refine aE fun K hK=>aD (by kernel_rfl) ?_;simp (maxSteps:=4000000) only[↓sP,sA,tyS,simprocAttr];repeat refine AI ?_
 refine hK _ _ _ ?_;clear hK K;refine aE fun K hK=>?_;refine aG (b:=decide ((i:Int)<d.l.length)) rfl (fun hb=>?_) (fun hb=>?_)
 ·
  have hlt:i<d.l.length:=by have:=of_decide_eq_true hb;omega
  have hle:=docsL_le d.l (i+1);rw[pV hlt,List.length_append]at hle;have hcd:(∀v∈d.l[i].d.map dg,v.cells=32)=True:=eq_true fun v hv=>by
   obtain⟨x,_,rfl⟩:=List.mem_map.1 hv;exact dg_cells x
  clear hb;refine aK ?_;simp (maxSteps:=4000000) only[↓sP,sA,tyS,simprocAttr];repeat refine AI ?_
  refine hK _ _ _ ?_;clear hK K;refine aE fun K hK=>?_;refine aP ?_;refine aE fun K hK=>aD (by kernel_rfl) ?_;simp only[sR,simprocAttr];iterate 4
   (refine aC (g:=none) rfl rfl fun K' hK'=>?_;simp only[sH,↓sP,sA,tyS,simprocAttr,Int.natCast_nonneg,Int.ofNat_lt,hlt,bA hlt];(repeat refine AI ?_);refine hK' _ _ ?_;clear hK' K')
  simp only[sE,↓reduceIte,simprocAttr];repeat refine AI ?_
  refine hK _ _ _ ?_;clear hK K;refine aD (by kernel_rfl) ?_;simp only[sR,simprocAttr];iterate 5
   (refine aC (g:=none) rfl rfl fun K' hK'=>?_;simp only[sH,↓sP,sA,tyS,simprocAttr,List.length_map,hcd];(repeat refine AI ?_);refine hK' _ _ ?_;clear hK' K')
  simp only[sE,↓reduceIte,simprocAttr];repeat refine AI ?_
  refine hK _ _ _ ?_;clear hK K;refine aD (by kernel_rfl) ?_;simp (maxSteps:=4000000) only[↓sP,sA,tyS,simprocAttr,IntWalk.i64_in _ (show-9223372036854775808≤(i:Int)+1∧(i:Int)+1≤9223372036854775807 by omega)];refine⟨⟨i+1,by omega⟩,(aI (by omega) (by simp[aY,fin_at,finA_at,upd_at,HV.men,HV.menL,HV.norm,HV.toC,HV.toCL,pV hlt,List.map_append,List.length_append]) (by simp[bB,fob_at,upd_at,none0_at,bN,HO.men,HV.men,HV.menL,HV.norm,HV.toC,HV.toCL,pV hlt,List.map_append,List.length_append])),?_⟩;show d.l.length-(i+1)<d.l.length-i;omega
 have hie:i=d.l.length:=by have:=of_decide_eq_false hb;omega
 subst hie;clear hb;rw[List.take_length];refine bK ?_;simp (maxSteps:=4000000) only[↓sP,sA,tyS,simprocAttr];clear hK K;repeat refine AI ?_
 refine hK _ _ _ ?_;clear hK K;refine aE fun K hK=>aD (by kernel_rfl) ?_;simp only[sR,simprocAttr];refine aC (g:=none) rfl rfl fun K' hK'=>?_;simp (maxSteps:=4000000) only[sH,↓sP,sA,tyS,simprocAttr];repeat refine AI ?_
 refine hK' _ _ ?_;clear hK' K';refine aC (g:=none) rfl rfl fun K' hK'=>?_;simp (maxSteps:=4000000) only[sH,↓sP,sA,tyS,simprocAttr];refine aV9 (bW7 (dD d.l) (by omega)) rfl (by simp) (by simp) ⟨rfl,rfl,rfl,rfl⟩ ?_;rintro s hp hs;have hsl:=hp.length_eq;repeat refine AI ?_
 refine hK' _ _ ?_;clear hK' K';simp only[sE,↓reduceIte,simprocAttr];repeat refine AI ?_
 refine hK _ _ _ ?_;clear hK K;refine aE fun K hK=>aD (by kernel_rfl) ?_;simp only[sR,simprocAttr];refine aC (g:=none) rfl rfl fun K' hK'=>?_;simp (maxSteps:=4000000) only[sH,↓sP,sA,tyS,simprocAttr];repeat refine AI ?_
 refine hK' _ _ ?_;clear hK' K';refine aC (g:=none) rfl rfl fun K' hK'=>?_;simp (maxSteps:=4000000) only[sH,↓sP,sA,tyS,simprocAttr];refine bN8 (aP5 s (by omega)) (by simp[HV.menL]) (by simp[HV.renL]) rfl (by simp;omega) (by simp) ⟨rfl,rfl,rfl,rfl⟩ ?_;rintro l' ⟨Q,rfl,hQ⟩;repeat refine AI ?_
 refine hK' _ _ ?_;clear hK' K';refine aC (g:=none) rfl rfl fun K' hK'=>?_;simp (maxSteps:=4000000) only[sH,↓sP,sA,tyS,simprocAttr];repeat refine AI ?_
 refine hK' _ _ ?_;clear hK' K';simp only[sE,↓reduceIte,simprocAttr];repeat refine AI ?_
 refine hK _ _ _ ?_;clear hK K;refine aJ ?_;simp (maxSteps:=4000000) only[aT,Tryz.results24,aR,aS,aQ,↓sP,sA,tyS,simprocAttr];refine aW [216] (.slc (Q.map dg)) (by simp[HV.close,fob_at,upd_at,bY0,HV.norm,HV.toC]) ⟨Q,rfl,?_⟩;rw[hQ,bU4];refine bJ0 hp (hs.imp fun {a b} h=>?_);rw[←cK1];exact h
end Go.Proofs.YthedbjfipmkpiaaGreatDoor
namespace Go.Pl
open Go Go.Hl
def tr1 :List Nd:=[⟨1,0,0,⟨1,1,0,[]⟩⟩]
def sp1 :List Sp:=[⟨true,[dg1 4],0⟩]
def ln1 :List Ln:=[⟨1,0,[dg1 4],[]⟩,⟨5,0,[],[0]⟩]
def dv1 :Dv:={dv0 with l:=ln1}
theorem cF9 :evalV tr1 (truL sp1)=true:=by decide+kernel
theorem cK2 :proveV tr1 sp1=ln1:=by
 have h:zG tr1 sp1=[⟨1,0,[dg1 4],[]⟩]:=rfl;unfold proveV;rw[if_pos cF9,h];rfl
theorem aW0 :iO dv1=[[wDer,[],[],iN zdg,[48],iN zdg,[48]],[wOrg,iN zdg,[],[]],[qY,[48]],[oH,iN (dg1 4)],[bS0,[48],[48]]]:=by
 simp only[iO,mB,dv1,dv0,qs0,og0,ln1,List.flatMap_cons,List.flatMap_nil,fD,firstL,wordK,bG5,List.map_cons,List.map_nil,mF,List.cons_append,List.nil_append,if_true];rfl
theorem cK3 :dvE dv1=0:=by
 unfold dvE;rw[if_pos (by decide+kernel),aW0];decide+kernel
theorem pW :ddE (dvO dv1)=0∧(ddO (dvO dv1)).l.length=2:=by
 obtain⟨h1,h2,h3⟩:=bS3 cK3 rfl;rw[h2,h3];exact⟨rfl,rfl⟩
end Go.Pl
namespace Go.Proofs.YthedbjfipmkpiaaGreatDoor
open Go Go.Hl Go.Pl
set_option maxRecDepth 10000
set_option maxHeartbeats 4000000
theorem cO5 :DvW dv1:=by
 refine⟨by decide,by decide,fun x hx=>?_,by rw[aW0];decide,by decide⟩;simp only[dv1,ln1,List.mem_cons,List.not_mem_nil,or_false]at hx;rcases hx with rfl|rfl
 · exact⟨by decide,by decide,by simp,by simp,by simp⟩
 exact⟨by decide,by decide,fun n hn=>by obtain rfl:=List.mem_singleton.1 hn;decide,by simp,by simp⟩
theorem cE1 :(dvO dv1).length<2^40:=by
 have h:dvO dv1=uJ (iO dv1):=(bS1 cK3).2.2;rw[h,aW0];decide+kernel
theorem cO6 :(bU4 dv1.l).length=1:=by decide+kernel
theorem aP9 :mZ Tryz.prog 17 tabs [] (fun v=>v= .bool true):=by
 refine bD (args:=[]) Tryz.func17 rfl (by kernel_rfl) (fR tabs []) (Nat.le_of_ble_eq_true rfl) ?_;unfold fL;refine aE fun K hK=>aD (by kernel_rfl) ?_;simp (maxSteps:=4000000) only[↓sP,sA,tyS,simprocAttr];repeat refine AI ?_
 refine hK _ _ _ ?_;clear hK K;refine aE fun K hK=>cK (by kernel_rfl) ?_;simp only[sR,simprocAttr];iterate 2
  (refine bF (g:=none) rfl rfl fun K' hK'=>?_;simp only[sH,↓sP,sA,tyS,simprocAttr];(repeat refine AI ?_);refine hK' _ _ ?_;clear hK' K')
 refine eO (g:=none) 13 rfl rfl fun K' hK'=>?_;simp (maxSteps:=4000000) only[jK,mC,sH,↓sP,sA,tyS,simprocAttr];repeat refine AI ?_
 refine eK (by first|rfl|simp) ?_;try simp (maxSteps:=4000000) only[sH,↓sP,sA,tyS,simprocAttr]
 repeat refine AI ?_
 refine hK' _ _ ?_;clear hK' K';refine bF (g:=none) rfl rfl fun K' hK'=>?_;simp (maxSteps:=4000000) only[sH,↓sP,sA,tyS,simprocAttr];repeat refine AI ?_
 refine hK' _ _ ?_;clear hK' K';simp only[sE,↓reduceIte,simprocAttr];repeat refine AI ?_
 refine hK _ _ _ ?_;clear hK K;refine aE fun K hK=>cK (by kernel_rfl) ?_;simp only[sR,simprocAttr];iterate 2
  (refine bF (g:=none) rfl rfl fun K' hK'=>?_;simp only[sH,↓sP,sA,tyS,simprocAttr];(repeat refine AI ?_);refine hK' _ _ ?_;clear hK' K')
 refine eO (g:=none) 29 rfl rfl fun K' hK'=>?_;simp (maxSteps:=4000000) only[jK,mC,sH,↓sP,sA,tyS,simprocAttr];repeat refine AI ?_
 refine eK (by first|rfl|simp) ?_;try simp (maxSteps:=4000000) only[sH,↓sP,sA,tyS,simprocAttr]
 repeat refine AI ?_
 refine hK' _ _ ?_;clear hK' K';refine bF (g:=none) rfl rfl fun K' hK'=>?_;simp (maxSteps:=4000000) only[sH,↓sP,sA,tyS,simprocAttr];repeat refine AI ?_
 refine hK' _ _ ?_;clear hK' K';refine eO (g:=none) 37 rfl rfl fun K' hK'=>?_;simp (maxSteps:=4000000) only[jK,mC,sH,↓sP,sA,tyS,simprocAttr];repeat refine AI ?_
 refine eK (by first|rfl|simp) ?_;try simp (maxSteps:=4000000) only[sH,↓sP,sA,tyS,simprocAttr]
 repeat refine AI ?_
 refine hK' _ _ ?_;clear hK' K';refine bF (g:=none) rfl rfl fun K' hK'=>?_;simp (maxSteps:=4000000) only[sH,↓sP,sA,tyS,simprocAttr];refine cS (args:=[_,_]) (aP4 tr1 (by simp[tr1]) sp1 (by decide) (by simp[sp1])) ⟨rfl,rfl,rfl,rfl⟩ ?_;rintro u v ⟨rfl,rfl⟩;rw[cF9,cK2];repeat refine AI ?_
 refine hK' _ _ ?_;clear hK' K';iterate 5
  (refine bF (g:=none) rfl rfl fun K' hK'=>?_;simp only[sH,↓sP,sA,tyS,simprocAttr];(repeat refine AI ?_);refine hK' _ _ ?_;clear hK' K')
 simp only[sE,↓reduceIte,simprocAttr];repeat refine AI ?_
 refine hK _ _ _ ?_;clear hK K;refine aE fun K hK=>aD (by kernel_rfl) ?_;simp only[sR,simprocAttr];iterate 4
  (refine aC (g:=none) rfl rfl fun K' hK'=>?_;simp only[sH,↓sP,sA,tyS,simprocAttr,cT,cU];(repeat refine AI ?_);refine hK' _ _ ?_;clear hK' K')
 simp only[sE,↓reduceIte,simprocAttr];repeat refine AI ?_
 refine hK _ _ _ ?_;clear hK K;refine bX (fr2:=fin [(2,.c (.slc (ln1.map Ln.cv))),(3,.c (.bool true)),(4,.ptr 73 0)]) (ob2:=fob [(0,.tab tabs),(73,.box 50 (.c dv1.cv))]) (nx2:=100) (aI (by omega) (by simp[aY,fin_at,finA_at,upd_at,HV.men,HV.menL,HV.norm,HV.toC,HV.toCL]) (by simp[bB,fob_at,upd_at,none0_at,bN,HO.men,HV.men,HV.menL,HV.norm,HV.toC,HV.toCL];rfl)) ?_;refine aE fun K hK=>aD (by kernel_rfl) ?_;simp only[sR,simprocAttr];refine aC (g:=none) rfl rfl fun K' hK'=>?_;simp (maxSteps:=4000000) only[sH,↓sP,sA,tyS,simprocAttr];repeat refine AI ?_
 refine hK' _ _ ?_;clear hK' K';refine aC (g:=none) rfl rfl fun K' hK'=>?_;simp (maxSteps:=4000000) only[sH,↓sP,sA,tyS,simprocAttr];refine fM (args:=[_]) 0 (aO0 dv1 cO5) rfl (by simp) ⟨rfl,rfl,rfl,rfl⟩ ?_;rintro u v ⟨rfl,rfl⟩;rw[cK3];repeat refine AI ?_
 refine hK' _ _ ?_;clear hK' K';iterate 5
  (refine aC (g:=none) rfl rfl fun K' hK'=>?_;simp only[sH,↓sP,sA,tyS,simprocAttr];(repeat refine AI ?_);refine hK' _ _ ?_;clear hK' K')
 simp only[sE,↓reduceIte,simprocAttr];repeat refine AI ?_
 refine hK _ _ _ ?_;clear hK K;refine aE fun K hK=>aD (by kernel_rfl) ?_;simp only[sR,simprocAttr];refine aC (g:=none) rfl rfl fun K' hK'=>?_;simp (maxSteps:=4000000) only[sH,↓sP,sA,tyS,simprocAttr,cM];repeat refine AI ?_
 refine hK' _ _ ?_;clear hK' K';refine aC (g:=none) rfl rfl fun K' hK'=>?_;simp (maxSteps:=4000000) only[sH,↓sP,sA,tyS,simprocAttr,cM];refine fM (args:=[_]) 0 (cD4 (dvO dv1) cE1) rfl (by simp) ⟨rfl,rfl,rfl,rfl⟩ ?_;rintro u v ⟨rfl,rfl⟩;rw[pW.1];repeat refine AI ?_
 refine hK' _ _ ?_;clear hK' K';iterate 6
  (refine aC (g:=none) rfl rfl fun K' hK'=>?_;simp only[sH,↓sP,sA,tyS,simprocAttr,cM];(repeat refine AI ?_);refine hK' _ _ ?_;clear hK' K')
 simp only[sE,↓reduceIte,simprocAttr];repeat refine AI ?_
 refine hK _ _ _ ?_;clear hK K;refine aE fun K hK=>aD (by kernel_rfl) ?_;simp only[sR,simprocAttr];iterate 2
  (refine aC (g:=none) rfl rfl fun K' hK'=>?_;simp only[sH,↓sP,sA,tyS,simprocAttr,List.length_map,(show((ln1.length:Int)==2)=true from rfl),pW.2,(show(((2:Nat):Int)==2)=true from rfl),(show(((1:Nat):Int)==1)=true from rfl)];(repeat refine AI ?_);refine hK' _ _ ?_;clear hK' K')
 iterate 3
  (refine aC (g:=some (34,true)) rfl rfl fun K' hK'=>?_;simp only[sH,↓sP,sA,tyS,simprocAttr,List.length_map,(show((ln1.length:Int)==2)=true from rfl),pW.2,(show(((2:Nat):Int)==2)=true from rfl),(show(((1:Nat):Int)==1)=true from rfl)];(repeat refine AI ?_);refine hK' _ _ ?_;clear hK' K')
 iterate 2
  (refine aC (g:=none) rfl rfl fun K' hK'=>?_;simp only[sH,↓sP,sA,tyS,simprocAttr,List.length_map,(show((ln1.length:Int)==2)=true from rfl),pW.2,(show(((2:Nat):Int)==2)=true from rfl),(show(((1:Nat):Int)==1)=true from rfl)];(repeat refine AI ?_);refine hK' _ _ ?_;clear hK' K')
 refine aC (g:=some (39,true)) rfl rfl fun K' hK'=>?_;simp (maxSteps:=4000000) only[sH,↓sP,sA,tyS,simprocAttr,List.length_map,(show((ln1.length:Int)==2)=true from rfl),pW.2,(show(((2:Nat):Int)==2)=true from rfl),(show(((1:Nat):Int)==1)=true from rfl)];repeat refine AI ?_
 refine hK' _ _ ?_;clear hK' K';refine aC (g:=some (39,true)) rfl rfl fun K' hK'=>?_;simp (maxSteps:=4000000) only[sH,↓sP,sA,tyS,simprocAttr,List.length_map,(show((ln1.length:Int)==2)=true from rfl),pW.2,(show(((2:Nat):Int)==2)=true from rfl),(show(((1:Nat):Int)==1)=true from rfl)];refine aX (args:=[_]) (bB7 dv1 (by decide) (by decide)) ⟨rfl,rfl,rfl,rfl⟩ ?_;rintro u ⟨D0,rfl,hD0⟩;have hD1:D0.length=1:=by rw[←eU,hD0,cO6]
 repeat refine AI ?_
 refine hK' _ _ ?_;clear hK' K';refine aC (g:=some (39,true)) rfl rfl fun K' hK'=>?_;simp (maxSteps:=4000000) only[sH,↓sP,sA,tyS,simprocAttr,List.length_map,(show((ln1.length:Int)==2)=true from rfl),pW.2,(show(((2:Nat):Int)==2)=true from rfl),(show(((1:Nat):Int)==1)=true from rfl)];rw[hD1];repeat refine AI ?_
 refine hK' _ _ ?_;clear hK' K';refine aC (g:=some (39,true)) rfl rfl fun K' hK'=>?_;simp (maxSteps:=4000000) only[sH,↓sP,sA,tyS,simprocAttr,List.length_map,(show((ln1.length:Int)==2)=true from rfl),pW.2,(show(((2:Nat):Int)==2)=true from rfl),(show(((1:Nat):Int)==1)=true from rfl)];repeat refine AI ?_
 refine hK' _ _ ?_;clear hK' K';iterate 2
  (refine aC (g:=none) rfl rfl fun K' hK'=>?_;simp only[sH,↓sP,sA,tyS,simprocAttr,List.length_map,(show((ln1.length:Int)==2)=true from rfl),pW.2,(show(((2:Nat):Int)==2)=true from rfl),(show(((1:Nat):Int)==1)=true from rfl)];(repeat refine AI ?_);refine hK' _ _ ?_;clear hK' K')
 iterate 2
  (refine aC (g:=some (45,true)) rfl rfl fun K' hK'=>?_;simp only[sH,↓sP,sA,tyS,simprocAttr,List.length_map,(show((ln1.length:Int)==2)=true from rfl),pW.2,(show(((2:Nat):Int)==2)=true from rfl),(show(((1:Nat):Int)==1)=true from rfl)];(repeat refine AI ?_);refine hK' _ _ ?_;clear hK' K')
 iterate 2
  (refine aC (g:=none) rfl rfl fun K' hK'=>?_;simp only[sH,↓sP,sA,tyS,simprocAttr,List.length_map,(show((ln1.length:Int)==2)=true from rfl),pW.2,(show(((2:Nat):Int)==2)=true from rfl),(show(((1:Nat):Int)==1)=true from rfl)];(repeat refine AI ?_);refine hK' _ _ ?_;clear hK' K')
 iterate 2
  (refine aC (g:=some (49,true)) rfl rfl fun K' hK'=>?_;simp only[sH,↓sP,sA,tyS,simprocAttr,List.length_map,(show((ln1.length:Int)==2)=true from rfl),pW.2,(show(((2:Nat):Int)==2)=true from rfl),(show(((1:Nat):Int)==1)=true from rfl)];(repeat refine AI ?_);refine hK' _ _ ?_;clear hK' K')
 iterate 2
  (refine aC (g:=none) rfl rfl fun K' hK'=>?_;simp only[sH,↓sP,sA,tyS,simprocAttr,List.length_map,(show((ln1.length:Int)==2)=true from rfl),pW.2,(show(((2:Nat):Int)==2)=true from rfl),(show(((1:Nat):Int)==1)=true from rfl)];(repeat refine AI ?_);refine hK' _ _ ?_;clear hK' K')
 iterate 4
  (refine aC (g:=some (53,true)) rfl rfl fun K' hK'=>?_;simp only[sH,↓sP,sA,tyS,simprocAttr,List.length_map,(show((ln1.length:Int)==2)=true from rfl),pW.2,(show(((2:Nat):Int)==2)=true from rfl),(show(((1:Nat):Int)==1)=true from rfl)];(repeat refine AI ?_);refine hK' _ _ ?_;clear hK' K')
 iterate 2
  (refine aC (g:=none) rfl rfl fun K' hK'=>?_;simp only[sH,↓sP,sA,tyS,simprocAttr,List.length_map,(show((ln1.length:Int)==2)=true from rfl),pW.2,(show(((2:Nat):Int)==2)=true from rfl),(show(((1:Nat):Int)==1)=true from rfl)];(repeat refine AI ?_);refine hK' _ _ ?_;clear hK' K')
 simp only[sE,↓reduceIte,simprocAttr];repeat refine AI ?_
 refine hK _ _ _ ?_;clear hK K;refine aJ ?_;simp (maxSteps:=4000000) only[aT,Tryz.results17,aR,aS,aQ,↓sP,sA,tyS,simprocAttr];exact lR [] (.bool true) rfl rfl (by simp) rfl
set_option maxHeartbeats 2000000
set_option maxHeartbeats 8000000
theorem setW_snoc (l:List Dig)(d:Dig):iV (dws (l++[d]))=mD (iV (dws l)) d.1:=by
 rw[lW,iV,List.foldl_append];rfl
structure DvT (d:Dv):Prop where
 t:I64 d.t
 r:I64 d.r
 l: ∀x∈d.l,I64 x.k∧I64 x.n∧ ∀n∈x.f,I64 n
 ll:d.l.length<2^63
theorem aQ0 : ∀(l a:List aH),(l.foldl mD a).length≤a.length+l.length
 |[],a=>by simp
 |w::l,a=>by
  have h1:=aQ0 l (mD a w);have h2:=aJ8 a w;rw[List.foldl_cons,List.length_cons];omega
theorem uB {α:Type}{f:α→CV}{Q:α→Prop}: ∀(l:List CV),(∀x∈l,∃y,x=f y∧Q y)→ ∃m:List α,l=m.map f∧ ∀y∈m,Q y
 |[],_=>⟨[],rfl,by simp⟩
 |x::l,h=>by
  obtain⟨y,rfl,hy⟩:=h x (by simp);obtain⟨m,rfl,hm⟩:=uB l (fun x hx=>h x (by simp[hx]));exact⟨y::m,rfl,fun z hz=>by rcases List.mem_cons.1 hz with rfl|hz;exact hy;exact hm z hz⟩
theorem cR1 {n:Int}(h:(Lit.int .i64 n).wf=true):I64 n:=by
 simpa[Lit.wf,IntKind.min,IntKind.max,IntKind.signed,IntKind.bits]using h
theorem cE2 {c:CV}(h:HasTy Tryz.prog 22 c): ∃L:List Int,c= .slc (L.map (.int .i64))∧(∀n∈L,I64 n)∧L.length≤maxLen:=by
 obtain⟨l,rfl,hl,hn⟩:=h.of_slc Tryz.underlying22;obtain⟨m,rfl,hm⟩:=uB (f:=CV.int .i64) (Q:=I64) l (fun x hx=>by obtain⟨n,rfl,hw⟩:=(hl x hx).of_int Tryz.underlying3;exact⟨n,rfl,cR1 hw⟩);exact⟨m,rfl,hm,by simpa using hn⟩
theorem own :ownKnob Tryz.prog.godebug=none:=by kernel_rfl
theorem cO7 :Kids Tryz.prog (· <Tryz.prog.types.size):=kids_rows (by kernel_rfl) (by kernel_rfl)
theorem aW1 : ∀t e,t<Tryz.prog.types.size→Tryz.prog.underlying t=some (.slice e)→0<Tryz.prog.cellsOf e:=slices_full_of Tryz.prog (by kernel_rfl)
def tp (L:List Int)(a:Nat):CV:= .agg [.slc (L.map (.int .i64)),.int .i64 a]
attribute [local simp] tp
theorem dY (L:List Int)(a:Nat)(n:Int)(ha:a<2^40)(hn:n<2^62):bD4 Tryz.prog 13 76 (tp L a) [.int .i64 n] (fun u v'=> ∃(x:Int) (a':Nat),u= .int .i64 x∧v'=tp L a'∧a'≤a+1∧0≤x∧(n<1→x=0)∧(1≤n→x<n)):=by
 refine bD Tryz.func13 rfl (by kernel_rfl) (jC _ _ _) (Nat.le_of_ble_eq_true rfl) ?_;refine aE fun K hK=>aD (by kernel_rfl) ?_;simp (maxSteps:=4000000) only[↓sP,sA,tyS,simprocAttr];repeat refine AI ?_
 refine hK _ _ _ ?_;clear hK K;refine aE fun K hK=>?_;refine aE fun K hK=>aD (by kernel_rfl) ?_;simp (maxSteps:=4000000) only[↓sP,sA,tyS,simprocAttr];repeat refine AI ?_
 refine hK _ _ _ ?_;clear hK K;refine aG (b:=decide (n<1)) rfl (fun hb=>?_) (fun hb=>?_)
 ·
  refine aE fun K hK=>aD (by kernel_rfl) ?_;simp (maxSteps:=4000000) only[↓sP,sA,tyS,simprocAttr];repeat refine AI ?_
  refine hK _ _ _ ?_;clear hK K;refine aJ ?_;simp (maxSteps:=4000000) only[aT,Tryz.results13,aR,aS,aQ,↓sP,sA,tyS,simprocAttr];refine kX [] (.int .i64 0) (tp L a) rfl rfl ?_ (by simp) ⟨0,a,rfl,rfl,by omega,by omega,fun _=>rfl,fun h=>by omega⟩;simp[HV.close,tp,CV.denil,CV.denilL,denilL_int,HV.norm,HV.toC]
 refine aK ?_;simp (maxSteps:=4000000) only[↓sP,sA,tyS,simprocAttr];repeat refine AI ?_
 refine hK _ _ _ ?_;clear hK K;refine aE fun K hK=>aD (by kernel_rfl) ?_;simp only[sR,simprocAttr];iterate 7
  (refine aC (g:=none) rfl rfl fun K' hK'=>?_;simp only[sH,↓sP,sA,tyS,simprocAttr,tp];(repeat refine AI ?_);refine hK' _ _ ?_;clear hK' K')
 simp only[sE,↓reduceIte,simprocAttr];repeat refine AI ?_
 refine hK _ _ _ ?_;clear hK K;refine aE fun K hK=>?_;have key: ∀(v:Int) fr ob nx,Fits 1 fr ob (fin [(0,.ptr 0 0),(1,.c (.int .i64 n)),(5,.c (.int .i64 v))]) (fob [(0,.box 76 (.c (tp L a)))]) 300→K fr ob nx:=by
  intro v fr ob nx hf;refine hK _ _ _ (bX hf ?_);clear hf hK K;have hn1:1≤n:=by simp at hb;omega
  have e0:=Int.tmod_lt_of_pos v (b:=n) (by omega);have e1: -n<v.tmod n:=Int.lt_tmod_of_pos v (by omega);refine aE fun K hK=>aD (by kernel_rfl) ?_;simp only[sR,simprocAttr];iterate 8
   (refine aC (g:=none) rfl rfl fun K' hK'=>?_;simp only[sH,↓sP,sA,tyS,simprocAttr,tp];(repeat refine AI ?_);refine hK' _ _ ?_;clear hK' K')
  simp only[sE,↓reduceIte,simprocAttr];repeat refine AI ?_
  refine hK _ _ _ ?_;clear hK K;refine aE fun K hK=>aD (by kernel_rfl) ?_;simp only[sR,simprocAttr];iterate 8
   (refine aC (g:=none) rfl rfl fun K' hK'=>?_;simp only[sH,↓sP,sA,tyS,simprocAttr,tp];(repeat refine AI ?_);refine hK' _ _ ?_;clear hK' K')
  simp only[sE,↓reduceIte,simprocAttr];repeat refine AI ?_
  refine hK _ _ _ ?_;clear hK K;refine aJ ?_;simp (maxSteps:=4000000) only[aT,Tryz.results13,aR,aS,aQ,↓sP,sA,tyS,simprocAttr];have e2:IntKind.i64.wrap (v.tmod n+n)=v.tmod n+n:=IntWalk.i64_in _ (by omega);have e3:IntKind.i64.wrap ((a:Int)+1)=((a+1:Nat):Int):=IntWalk.i64_in _ (by omega);refine kX [] (.int .i64 ((v.tmod n+n).tmod n)) (tp L (a+1)) (by rw[e2];rfl) rfl ?_ (by simp) ⟨_,a+1,rfl,rfl,by omega,Int.tmod_nonneg _ (by omega),fun h=>by omega,fun _=>Int.tmod_lt_of_pos _ (by omega)⟩;simp[HV.close,HV.closeL,tp,CV.denil,CV.denilL,denilL_int,HV.norm,HV.toC,HV.toCL,e3]
 refine aE fun K hK=>eW mixed (by kernel_rfl) (by kernel_rfl) (by kernel_rfl) ?_;simp only[sR,simprocAttr];iterate 10
  (refine aC (g:=none) rfl rfl fun K' hK'=>?_;simp only[sH,↓sP,sA,tyS,simprocAttr,tp];(repeat refine AI ?_);refine hK' _ _ ?_;clear hK' K')
 simp only[sE,↓reduceIte,simprocAttr];repeat refine AI ?_
 refine hK _ _ _ ?_;clear hK K;refine aG (b:=decide ((a:Int)<L.length)) rfl (fun hb=>?_) (fun hb=>?_)
 ·
  refine eW mixed (by kernel_rfl) (by kernel_rfl) (by kernel_rfl) ?_;simp only[sR,simprocAttr];iterate 11
   (refine aC (g:=none) rfl rfl fun K' hK'=>?_;simp only[sH,↓sP,sA,tyS,simprocAttr,tp,Int.natCast_nonneg,(by simpa using hb:(a:Int)<L.length),bA (show a<L.length by simpa using hb)];(repeat refine AI ?_);refine hK' _ _ ?_;clear hK' K')
  simp only[sE,↓reduceIte,simprocAttr];exact key (L[a]'(by simpa using hb)) _ _ _ (aI (by omega) (by simp[aY,fin_at,finA_at,upd_at,HV.men,HV.menL,HV.norm,HV.toC,HV.toCL]) (by simp[bB,fob_at,upd_at,none0_at,bN,HO.men,HV.men,HV.menL,HV.norm,HV.toC,HV.toCL]))
 refine aK ?_;simp (maxSteps:=4000000) only[↓sP,sA,tyS,simprocAttr];exact key (IntKind.i64.wrap (IntKind.i64.wrap (↑a*7)+3)) _ _ _ (aI (by omega) (by simp[aY,fin_at,finA_at,upd_at,HV.men,HV.menL,HV.norm,HV.toC,HV.toCL]) (by simp[bB,fob_at,upd_at,none0_at,bN,HO.men,HV.men,HV.menL,HV.norm,HV.toC,HV.toCL]))
theorem cE3 (L:List Int)(a:Nat)(l:List aH)(ha:a<2^40)(hl:1≤l.length∧l.length<2^40):bD4 Tryz.prog 91 76 (tp L a) [.slc (l.map .str)] (fun u v'=> ∃(w:aH) (a':Nat),u= .str w∧w∈l∧v'=tp L a'∧a'≤a+1):=by
 refine bD Tryz.func91 rfl (by kernel_rfl) (jC _ _ _) (Nat.le_of_ble_eq_true rfl) ?_;refine aE fun K hK=>aD (by kernel_rfl) ?_;simp (maxSteps:=4000000) only[↓sP,sA,tyS,simprocAttr];repeat refine AI ?_
 refine hK _ _ _ ?_;clear hK K;refine aE fun K hK=>aD (by kernel_rfl) ?_;simp (maxSteps:=4000000) only[↓sP,sA,tyS,simprocAttr];refine cL (args:=[_]) (dY L a l.length ha (by omega)) rfl (by simp) ⟨rfl,rfl,rfl,rfl⟩ ?_;rintro u v' ⟨x,a',rfl,rfl,h1,h2,h3,h4⟩;obtain⟨i,rfl⟩: ∃i:Nat,x=i:=⟨x.toNat,by omega⟩;have hlt:i<l.length:=by omega
 simp only[↓sP,sA,tyS,simprocAttr,Int.natCast_nonneg,Int.ofNat_lt,hlt,bA hlt];repeat refine AI ?_
 refine hK _ _ _ ?_;clear hK K;refine aJ ?_;simp (maxSteps:=4000000) only[aT,Tryz.results91,aR,aS,aQ,↓sP,sA,tyS,simprocAttr];exact kX [] (.str l[i]) (tp L a') rfl rfl (by simp[HV.close,HV.closeL,tp,CV.denil,CV.denilL,denilL_int,HV.norm,HV.toC,HV.toCL]) (by simp) ⟨_,a',rfl,List.getElem_mem _,rfl,h1⟩
theorem cE4 (L:List Int)(n:Nat):HGe Tryz.prog 10 [.c (.slc (L.map (.int .i64))),.c (.int .i64 n)] [] (fun r os'=>r= .ptr 0 0∧os'=[.box 76 (.c (tp (L.take n) 0))]):=by
 refine bD (args:=[.c (.slc (L.map (.int .i64))),.c (.int .i64 n)]) Tryz.func10 rfl (by kernel_rfl) (eX rfl (by simp[dU]) (by simp[HV.menL,HV.men])) (Nat.le_of_ble_eq_true rfl) ?_;show Hw _ _ 0 _ _ _ (lst _) 0;rw[show lst []=fob []from by funext i;simp[lst,fob]];refine R0 ?_;refine aE fun K hK=>Rg ?_;iterate 9 refine S0 ?_ (e:=fun _ h_=>by simp only[sH,↓sP,sA,tyS,simprocAttr,denilL_int];exact AX h_)
 refine T2 (hK _ _ _ ?_);clear hK K;refine aJ ?_;simp only[aT,Tryz.results10,aR,aS,aQ,↓sP,sA,tyS,simprocAttr];refine gR [] [32] (.ptr 0 0) [.box 76 (.c (tp (L.take n) 0))] rfl (by simp[HV.men]) ⟨⟨by simp[HO.men,HV.men],by simp,_,rfl,?_⟩,trivial⟩ rfl (by simp) (by simp) (by simp) ⟨rfl,rfl⟩;simp[HO.close,HV.close,HV.closeL,HO.ren,HV.ren,HV.renL,tau,CV.denil,CV.denilL,denilL_int,HV.norm,aL0,upd_at,fob_at,HV.toC,HV.toCL,tp];have e:(if n<L.length then(n:Int)else(L.length:Int)).toNat=min n L.length:=by split<;>omega
 rw[e,←List.map_take,←List.map_take,denilL_int,←List.take_eq_take_min]
theorem bB8 (L:List Int)(a:Nat)(ha:a<2^39):bD4 Tryz.prog 73 76 (tp L a) [] (fun u v'=> ∃(q:Rq) (a':Nat),u=q.cv∧v'=tp L a'∧a'≤a+3∧gP q=true):=by
 refine bD Tryz.func73 rfl (by kernel_rfl) (jC _ _ _) (Nat.le_of_ble_eq_true rfl) ?_;have hw3: ∀x:Int,0≤x→x<100→IntKind.i64.wrap (1+x)=1+x:=fun x h1 h2=>IntWalk.i64_in _ (by omega);refine R0 ?_;refine aE fun K hK=>Rg ?_;refine S0 ?_;refine aC (g:=none) rfl rfl fun K' hK'=>?_;simp only[sH,↓sP,sA,tyS,simprocAttr];refine cL (args:=[_]) (dY L a 8 (by omega) (by omega)) rfl (by simp) ⟨rfl,rfl,rfl,rfl⟩ ?_;rintro u v' ⟨x,a1,rfl,rfl,h1,h2,h3,h4⟩;refine AX (hK' _ _ ?_);clear hK' K';iterate 4 refine S0 ?_
 refine T2 (hK _ _ _ ?_);clear hK K;refine aE fun K hK=>?_;have key: ∀(q:Rq) (a':Nat) fr ob nx,gP q=true→a'≤a+3→Fits 1 fr ob (fin [(2,.ptr 1 0),(3,.ptr 21 0)]) (fob [(0,.box 76 (.c (tp L a'))),(1,.box 87 (.c rq0.cv)),(21,.box 87 (.c q.cv))]) 600→K fr ob nx:=by
  rintro q a' fr ob nx hq ha' hf;refine hK _ _ _ (bX hf ?_);clear hf hK K;refine R0 ?_;refine aJ ?_;simp only[aT,Tryz.results73,aR,aS,aQ,↓sP,sA,tyS,simprocAttr];exact kX [] q.cv (tp L a') (by simp[HV.close,Rq.denil,HV.norm,HV.toC]) rfl (by simp[HV.close,tp,CV.denil,CV.denilL,denilL_int,HV.norm,HV.toC]) (by simp) ⟨q,a',rfl,rfl,ha',hq⟩
 have hx8:=h4 (by omega);obtain⟨k,hk⟩: ∃k,k=IntKind.i64.wrap (1+x):=⟨_,rfl⟩;have hkx:k=1+x:=by rw[hk,hw3 x h2 (by omega)]
 rw[←hk];clear hk h3 h4;refine R0 ?_;refine aP ?_;refine aE fun K hK=>?_;have key2: ∀(b:Bool) fr ob nx,b=(k==1||(k==3||k==5))→Fits 1 fr ob (fin [(0,.ptr 0 0),(2,.ptr 1 0),(3,.ptr 21 0),(9,.c (.int .i64 k)),(10,.c (.bool b))]) (fob [(0,.box 76 (.c (tp L a1))),(1,.box 87 (.c rq0.cv)),(21,.box 87 (.c (Rq.cv ⟨k,0,0,[]⟩)))]) 200→K fr ob nx:=by
  rintro b fr ob nx rfl hf;refine hK _ _ _ (bX hf ?_);clear hf hK K;refine aG (b:=_) rfl (fun hb=>?_) (fun hb=>?_)
  ·
   refine aD (by kernel_rfl) ?_;simp only[sR,simprocAttr];refine S0 ?_;refine aC (g:=none) rfl rfl fun K' hK'=>?_;simp only[sH,↓sP,sA,tyS,simprocAttr];refine cL (args:=[_]) (dY L a1 3 (by omega) (by omega)) rfl (by simp) ⟨rfl,rfl,rfl,rfl⟩ ?_;rintro u v' ⟨y,a2,rfl,rfl,g1,g2,g3,g4⟩;refine AX (hK' _ _ ?_);clear hK' K';iterate 3 refine S0 ?_
   simp only[sE,↓reduceIte,simprocAttr];have g5:=g4 (by omega);have hk3:k=1∨k=3∨k=5:=by simpa using hb
   exact key ⟨k,IntKind.i64.wrap (1+y),0,[]⟩ a2 _ _ _ (by rw[hw3 y g2 (by omega),gP,if_pos hk3];simp[inB];omega) (by omega) (fF)
  have h1:=hb;refine R0 ?_;refine aG (b:=_) rfl (fun hb=>?_) (fun hb=>?_)
  ·
   refine aD (by kernel_rfl) ?_;simp only[sR,simprocAttr];refine S0 ?_;refine aC (g:=none) rfl rfl fun K' hK'=>?_;simp only[sH,↓sP,sA,tyS,simprocAttr];refine cL (args:=[_]) (dY L a1 2 (by omega) (by omega)) rfl (by simp) ⟨rfl,rfl,rfl,rfl⟩ ?_;rintro u v' ⟨y,a2,rfl,rfl,g1,g2,g3,g4⟩;have g5:=g4 (by omega);clear g3 g4;refine AX (hK' _ _ ?_);clear hK' K';iterate 2 refine S0 ?_
   refine aC (g:=none) rfl rfl fun K' hK'=>?_;simp only[sH,↓sP,sA,tyS,simprocAttr];refine cL (args:=[_]) (dY L a2 2 (by omega) (by omega)) rfl (by simp) ⟨rfl,rfl,rfl,rfl⟩ ?_;rintro u v' ⟨z,a3,rfl,rfl,f1,f2,f3,f4⟩;refine AX (hK' _ _ ?_);clear hK' K';iterate 4 refine S0 ?_
   simp only[sE,↓reduceIte,simprocAttr];have n1: ¬(k=1∨k=3∨k=5):=by simpa using h1
   have f5:=f4 (by omega);have hk4:k=4:=by simpa using hb
   exact key ⟨k,IntKind.i64.wrap (1+y),z,[]⟩ a3 _ _ _ (by rw[hw3 y g2 (by omega),gP,if_neg n1,if_pos hk4];simp[inB];omega) (by omega) (fF)
  have n4: ¬k=4:=by simpa using hb
  refine R0 ?_;refine aG (b:=_) rfl (fun hb=>?_) (fun hb=>?_)
  ·
   refine cK (by kernel_rfl) ?_;simp only[sR,simprocAttr];refine SG0 ?_;refine eO (g:=none) 220 rfl rfl fun K' hK'=>?_;simp only[jK,mC,sH,↓sP,sA,tyS,simprocAttr];repeat refine AI ?_
   refine eK (by first|rfl|simp) ?_;try simp only[sH,↓sP,sA,tyS,simprocAttr]
   refine AX (hK' _ _ ?_);clear hK' K';refine bF (g:=none) rfl rfl fun K' hK'=>?_;simp only[sH,↓sP,sA,tyS,simprocAttr];refine cL (args:=[_]) (cE3 L a1 [[115,104,111,112],[119,101,98]] (by omega) (by decide)) rfl (by simp) ⟨rfl,rfl,rfl,rfl⟩ ?_;rintro u v' ⟨w,a2,rfl,hwm,rfl,g1⟩;refine AX (hK' _ _ ?_);clear hK' K';iterate 2 refine SG0 ?_
   simp only[sE,↓reduceIte,simprocAttr];have n1: ¬(k=1∨k=3∨k=5):=by simpa using h1
   have hk2:k=2:=by simpa using hb
   exact key ⟨k,0,0,w⟩ a2 _ _ _ (by
    have hnm:fV w=true:=by
     simp only[List.mem_cons,List.not_mem_nil,or_false]at hwm;rcases hwm with rfl|rfl<;>decide
    rw[gP,if_neg n1,if_neg n4,if_pos hk2,hnm];rfl) (by omega) (fF)
  have n2: ¬k=2:=by simpa using hb
  refine R0 ?_;refine aG (b:=_) rfl (fun hb=>?_) (fun hb=>?_)
  ·
   refine aD (by kernel_rfl) ?_;simp only[sR,simprocAttr];refine S0 ?_;refine aC (g:=none) rfl rfl fun K' hK'=>?_;simp only[sH,↓sP,sA,tyS,simprocAttr];refine cL (args:=[_]) (dY L a1 10 (by omega) (by omega)) rfl (by simp) ⟨rfl,rfl,rfl,rfl⟩ ?_;rintro u v' ⟨y,a2,rfl,rfl,g1,g2,g3,g4⟩;refine AX (hK' _ _ ?_);clear hK' K';iterate 3 refine S0 ?_
   simp only[sE,↓reduceIte,simprocAttr];have n1: ¬(k=1∨k=3∨k=5):=by simpa using h1
   have g5:=g4 (by omega);have hk6:k=6:=by simpa using hb
   exact key ⟨k,IntKind.i64.wrap (1+y),0,[]⟩ a2 _ _ _ (by rw[hw3 y g2 (by omega),gP,if_neg n1,if_neg n4,if_neg n2,if_pos hk6];simp[inB];omega) (by omega) (fF)
  have n6: ¬k=6:=by simpa using hb
  refine R0 ?_;refine aG (b:=_) rfl (fun hb=>?_) (fun hb=>?_)
  ·
   refine aD (by kernel_rfl) ?_;simp only[sR,simprocAttr];refine S0 ?_;refine aC (g:=none) rfl rfl fun K' hK'=>?_;simp only[sH,↓sP,sA,tyS,simprocAttr];refine cL (args:=[_]) (dY L a1 30 (by omega) (by omega)) rfl (by simp) ⟨rfl,rfl,rfl,rfl⟩ ?_;rintro u v' ⟨y,a2,rfl,rfl,g1,g2,g3,g4⟩;refine AX (hK' _ _ ?_);clear hK' K';iterate 2 refine S0 ?_
   simp only[sE,↓reduceIte,simprocAttr];have n1: ¬(k=1∨k=3∨k=5):=by simpa using h1
   have g5:=g4 (by omega);have hk7:k=7:=by simpa using hb
   exact key ⟨k,y,0,[]⟩ a2 _ _ _ (by rw[gP,if_neg n1,if_neg n4,if_neg n2,if_neg n6,if_pos hk7,qV];simp[inB];omega) (by omega) (fF)
  refine aK ?_;simp only[↓sP,sA,tyS,simprocAttr];have n1: ¬(k=1∨k=3∨k=5):=by simpa using h1
  have n7: ¬k=7:=by simpa using hb
  have hk8:k=8:=by omega
  exact key ⟨k,0,0,[]⟩ a1 _ _ _ (by rw[gP,if_neg n1,if_neg n4,if_neg n2,if_neg n6,if_neg n7,if_pos hk8];rfl) (by omega) (fF)
 refine R0 ?_;refine aG (b:=_) rfl (fun hb=>?_) (fun hb=>?_)
 · refine aK ?_;simp only[↓sP,sA,tyS,simprocAttr];exact key2 (k==1) _ _ _ (by rw[hb];rfl) (aI (by omega) (by simp[aY,fin_at,finA_at,upd_at,HV.men,HV.menL,HV.norm,HV.toC,HV.toCL,Rq.cv,rq0]) (by simp[bB,fob_at,upd_at,none0_at,bN,HO.men,HV.men,HV.menL,HV.norm,HV.toC,HV.toCL,Rq.cv,rq0]))
 have h1:=hb;refine R0 ?_;refine aG (b:=_) rfl (fun hb=>?_) (fun hb=>?_)
 · refine aK ?_;simp only[↓sP,sA,tyS,simprocAttr];exact key2 (k==3) _ _ _ (by rw[h1,hb];rfl) (aI (by omega) (by simp[aY,fin_at,finA_at,upd_at,HV.men,HV.menL,HV.norm,HV.toC,HV.toCL,Rq.cv,rq0]) (by simp[bB,fob_at,upd_at,none0_at,bN,HO.men,HV.men,HV.menL,HV.norm,HV.toC,HV.toCL,Rq.cv,rq0]))
 have h1':=hb;refine aD (by kernel_rfl) ?_;simp only[↓sP,sA,tyS,simprocAttr];exact key2 (k==5) _ _ _ (by rw[h1,h1'];rfl) (aI (by omega) (by simp[aY,fin_at,finA_at,upd_at,HV.men,HV.menL,HV.norm,HV.toC,HV.toCL,Rq.cv,rq0]) (by simp[bB,fob_at,upd_at,none0_at,bN,HO.men,HV.men,HV.menL,HV.norm,HV.toC,HV.toCL,Rq.cv,rq0]))
def ShN (T:List Nd):Prop:= ∀n∈T,n.q.t.length<2^63
theorem ShN.set {T:List Nd}(h:ShN T)(i:Nat){x:Nd}(hx:x.q.t.length<2^63):ShN (T.set i x):=fun n hn=>by
 rcases List.mem_or_eq_of_mem_set hn with h1|rfl
 · exact h n h1
 exact hx
theorem bW8 (n:Nat):HV.ren (sub [] n) (.ptr 0 0)= .ptr n 0:=by simp[HV.ren,sub]
theorem bK3 (n:Nat)(ob:Ob)(t:TypeId)(v:CV):iX (sub [] n) ob 0 [.box t (.c v)]=upd ob n (some (.box t (.c v))):=by simp[iX,sub,HO.ren,HV.ren]
end Go.Proofs.YthedbjfipmkpiaaGreatDoor
