/- Part of a proof: walks of functions of the program, by contracts, and the rules they use. By an AI agent. -/
import Derived.Test.YthedbjfipmkpiaaGreatDoorPl02f
import Derived.Test.YthedbjfipmkpiaaGreatDoorHdSb
import Derived.Test.YthedbjfipmkpiaaGreatDoorHdUl
import Derived.Shelf.SlSortCmp.InsertionK
import Derived.Test.YthedbjfipmkpiaaGreatDoorPl18e
import Derived.Deep.QuietTactic
import Derived.BigQuiet
import Derived.Test.YthedbjfipmkpiaaGreatDoorChecked
import Derived.Shelf.SlSortCmp.NoneTotal
import Derived.Ground.SlsfProg
import Derived.Test.YthedbjfipmkpiaaGreatDoorHdW3
import Derived.Test.YthedbjfipmkpiaaGreatDoorPl28m
import Derived.Test.YthedbjfipmkpiaaGreatDoorHdFm
import Derived.Test.YthedbjfipmkpiaaGreatDoorHdTf
import Derived.Test.YthedbjfipmkpiaaGreatDoorHdSq
import Derived.Test.YthedbjfipmkpiaaGreatDoorHdV1
set_option linter.unusedSimpArgs false
set_option linter.unusedVariables false
set_option linter.defProp false
namespace Go.Proofs.YthedbjfipmkpiaaGreatDoor
open Go Go.Hl Go.Pl Go.Sort Go.RowKit
set_option maxRecDepth 100000
theorem aU8 (x y:Dig)(b c:Nat)(W:World)(h:(callFunc 90 #[.slice (some ⟨b,0,none⟩) 32 32,.slice (some ⟨c,0,none⟩) 32 32]).run Tryz.prog W= .ok (.value (.int .i64 (jR x.1 y.1))) W):
    Calls Tryz.prog 56 #[.slice (some ⟨b,0,none⟩) 32 32,.slice (some ⟨c,0,none⟩) 32 32] W fun e w'=>e= .returned (.int .i64 (jR x.1 y.1))∧w'=W:=by
  generalize jR x.1 y.1=r at h⊢
  go_enter Tryz.func56,Tryz.ntmps56
  go_wp2_with fail
  go_ret
  exact⟨rfl,rfl⟩
theorem aP1 (x y:Dig)(W:World)
    (hc: ∀W':World,W'.heap=((W.alloc (Obj.cells (dY x).toArray 44)).alloc (Obj.cells (dY y).toArray 44)).heap→Calls Tryz.prog 56 #[.slice (some ⟨W.heap.size,0,none⟩) 32 32,.slice (some ⟨W.heap.size+1,0,none⟩) 32 32] W' fun e w'=>e= .returned (.int .i64 (jR x.1 y.1))∧w'=W'):
    Calls Tryz.prog 55 #[.agg (dY x).toArray,.agg (dY y).toArray] W fun e w'=>e= .returned (.int .i64 (jR x.1 y.1))∧ ∃q os',w'=grow (W.drewN q) os':=by
  go_enter Tryz.func55,Tryz.ntmps55
  go_wp2_with fail
  go_quiet (first|(go_at_call 56;refine Calls.quiet_of_same (hc _ rfl)))
  go_wp2
  go_ret
  exact⟨rfl,nq,_,by rw[alloc_eq_grow,alloc_eq_grow,grow_grow];rfl⟩
theorem aC6 {W:World}{b:Nat}{d:Dig}{t:TypeId}{ρ:Env}(hb:W.heap[b]? =some (.cells (dY d).toArray t (0,0))):RepV W ρ (fun _=>False) (.c (.slc (d.1.map u8))) (.slice (some ⟨b,0,none⟩) 32 32):=by
  refine bT ?_ rfl rfl;simp only[RepC];refine⟨some ⟨b,0,none⟩,32,dY d,1,by simp[d.2],xO.2 rfl,fun v hv=>?_,by simp[d.2],fun h=>(by cases h),fun ad h=>?_⟩
  · obtain⟨x,_,rfl⟩:=List.mem_map.1 hv;rfl
  · cases h
    refine⟨fun j u hj=>?_,fun _ h=>h⟩;have h1:(dY d).toArray[j]? =some u:=by simpa using hj
    rw[show(⟨b,0,none⟩:Addr).add j=⟨b,j,none⟩from by unfold Addr.add;split<;>simp_all];simp only[World.cell?,hb,h1,Option.isSome_none,Bool.false_eq_true,if_false]
theorem aP2 (x y:Dig)(W:World):Calls Tryz.prog 55 #[.agg (dY x).toArray,.agg (dY y).toArray] W fun e w'=>e= .returned (.int .i64 (jR x.1 y.1))∧ ∃q os',w'=grow (W.drewN q) os':=
  aP1 x y W fun W' hW=>aU8 x y _ _ W' (by
    have h1:W'.heap[W.heap.size]? =some (.cells (dY x).toArray 44 (0,0)):=by
      rw[hW];simp only[World.alloc,Array.getElem?_push,Array.size_push];rw[if_neg (by omega),if_true]
    have h2:W'.heap[W.heap.size+1]? =some (.cells (dY y).toArray 44 (0,0)):=by
      rw[hW];simp only[World.alloc,Array.getElem?_push,Array.size_push];rw[if_true]
    have hr:=bY5 (P:=Tryz.prog) (aC6 (ρ:=fun _=>none) h1) (aC6 (ρ:=fun _=>none) h2);rw[run_callFunc_extern Tryz.func90 (by kernel_rfl) (by kernel_rfl) (by kernel_rfl) (e:=Extern.BytealgCompare.compare) (by kernel_rfl),hr];rfl)
theorem aU9 (blk size:Nat)(w:World):CmpLays Tryz.prog 55 #[] dY 32 (fun x y=>jR x.1 y.1) blk 0 size w:=fun _ _ _ _ x y=>aP2 x y _
theorem bV6 :SWO (ltOf fun x y:Dig=>jR x.1 y.1):=by
  have e: ∀x y:Dig,ltOf (fun x y:Dig=>jR x.1 y.1) x y=true↔x.1<y.1:=fun x y=>by
    rw[←uS];show decide (jR x.1 y.1<0)=true↔slt x.1 y.1=true;unfold jR;by_cases h:slt x.1 y.1=true
    · simp[h]
    · have h':slt x.1 y.1=false:=by simpa using h
      rw[h'];by_cases h2:x.1=y.1<;>simp[h2]
  have e2: ∀x y:Dig,ltOf (fun x y:Dig=>jR x.1 y.1) x y=false↔y.1≤x.1:=fun x y=>by
    rw[←List.not_lt,←e,Bool.not_eq_true]
  refine⟨fun x=>(e2 x x).2 (List.le_refl _),fun x y z h1 h2=>(e x z).2 (List.lt_trans ((e x y).1 h1) ((e y z).1 h2)),fun x y z h1 h2=>(e2 x z).2 (List.le_trans ((e2 y z).1 h2) ((e2 x y).1 h1))⟩
end Go.Proofs.YthedbjfipmkpiaaGreatDoor
namespace Go.Hl
open Go Go.RowKit Go.Sort Go.Pl Go.Proofs
def aV0 (P:Program)(lt:Dig→Dig→Bool)(f g:FuncId)(e:TypeId)(l:List Dig):Prop:=
 HFn P f [.own 0 l.length,.c (.fn g)] 1 (fob [(0,.row e 32 (l.map dg))]) (fun r ob'=>r= .tup []∧ ∃l':List Dig,l'.Perm l∧l'.Pairwise (fun a b=>lt b a=false)∧ob'=fob [(0,.row e 32 (l'.map dg))])
variable {l:List Dig}{e:TypeId}{lt:Dig→Dig→Bool}{P:Program}
theorem bJ1 {f g:FuncId}(hok:eG P f=true)
  (hc: ∀(blk cap:Nat) (w:World),HoldsK dY 32 w blk 0 l.toArray→blk<w.heap.size→Calls P f #[.slice (some ⟨blk,0,none⟩) l.length cap,.func (.func g) #[] #[]] w fun x w'=>x= .returned (.tuple #[])∧ ∃(d':Array Dig) (n:Nat) (os:Array Obj),PermIn 0 l.length l.toArray d'∧SortedIn lt 0 l.length d'∧w'=sortWorldK dY 32 w blk 0 n d' os)
  (hc0: ∀(cap:Nat) (w:World),Calls P f #[.slice none 0 cap,.func (.func g) #[] #[]] w fun x w'=>x= .returned (.tuple #[])∧w'=w):aV0 P lt f g e l:=by
 refine⟨qE hok,fun w ρ X xs hS hA hX=>Does.of hok ?_⟩;obtain⟨h,ys,hρ,hL,hcs,how⟩:=hS.objs 0 (.row e 32 (l.map dg)) rfl;have hys:=lS.1 hL;subst hys;have hlen:hlen h=l.length:=by have:=ownsRow_size how;simpa using this
 have hargs:xs=[h,.func (.func g) #[] #[]]:=by
  rw[bQ]at hA;obtain⟨y,zs,rfl,hy,hz⟩:=hA;rw[bQ]at hz;obtain⟨y2,zs2,rfl,hy2',hz2⟩:=hz;simp only[RepHV]at hz2;subst hz2;obtain⟨hy1,hy2⟩:=hy;have hag:Value.isAgg' y=false:=by rw[←hy2];rfl
  rw[cells_single hag]at hy1;simp only[RepH,List.cons.injEq,and_true]at hy1;obtain⟨x,rfl,_,hx⟩:=hy1;obtain⟨hz1,hz2⟩:=hy2';have hag2:Value.isAgg' y2=false:=by rw[←hz2];rfl
  rw[cells_single hag2]at hz1;simp only[RepH,RepC,List.cons.injEq,and_true]at hz1;rw[(hx h hρ).2 hlen,hz1]
 subst hargs;have hrt: ∀w':World,RepV w' ρ (Owned ρ X) (.tup []) (.tuple #[]):=fun w'=>by
  refine⟨?_,rfl⟩;simp only[RepH];exact⟨[],rfl,by simp[RepHV]⟩
 rcases how.2 with⟨rfl,hz⟩|⟨g',cap,cur,rfl,hg0,hg,hcap,hmax,hcsz,htake⟩
 ·
  have:l=[]:=List.eq_nil_of_length_eq_zero (by simpa using hz);subst this;refine(hc0 0 w).mono ?_;rintro ex w' ⟨rfl,rfl⟩;refine⟨.tup [],_,ρ,.tuple #[],rfl,⟨rfl,[],List.Perm.refl _,List.Pairwise.nil,rfl⟩,⟨hrt _,by simpa using hS,by simp[HV.men,HV.menL],fun i o ho=>?_,Stay2.refl _ _,Moves.refl _ _⟩⟩;simp only[fob_at,fob_nil]at ho;split at ho
  · rename_i e0;subst e0;cases ho;exact⟨by omega,trivial⟩
  · cases ho
 ·
  simp only[List.length_map]at hcap hcsz htake;have hgs:g'<w.heap.size:=(Array.getElem?_eq_some_iff.1 hg).1;have hH:HoldsK dY 32 w g' 0 l.toArray:=fun j hj=>by
   have hj':j<l.length*32:=by simpa using hj
   refine⟨?_,by simp[World.frozen?,hg]⟩;have e1:cur.toList[j]? =some (flatK dY 32 l.toArray)[j]! :=by
    have e0:(l.flatMap dY)[j]? =some (flatK dY 32 l.toArray)[j]! :=by
     rw[←xP,Array.getElem?_toList,Array.getElem?_eq_getElem (by simpa using hj'),getElem!_pos _ j (by simpa using hj')]
    have:(cur.toList.take (l.length*32))[j]? =(l.flatMap dY)[j]? :=by rw[htake]
    rwa [List.getElem?_take,if_pos hj',e0]at this
   rw[Array.getElem?_toList]at e1;simp only[World.cell?,hg,Nat.zero_add,e1,Option.isSome_none,Bool.false_eq_true,if_false,id]
  simp only[List.length_map];refine(hc g' cap w hH hgs).mono ?_;rintro ex w' ⟨rfl,d',n,os,⟨hps,-,hpp⟩,hso,rfl⟩;obtain⟨S,rfl⟩: ∃S:List Dig,d'=S.toArray:=⟨d'.toList,by simp⟩;have hSl:S.length=l.length:=by simpa using hps
  have hperm:S.Perm l:=by
   have h1:(S.toArray.extract 0 l.length).toList=S:=by rw[←hSl];simp
   have h2:(l.toArray.extract 0 l.length).toList=l:=by simp
   rwa [h1,h2]at hpp
  have hsrt:S.Pairwise (fun a b=>lt b a=false):=List.pairwise_iff_getElem.2 fun i j hi hj hij=>by
   have h1:=hso i j (Nat.zero_le _) hij (by omega);simpa[getElem!_pos,hi,hj]using h1
  have hother: ∀b,b<w.heap.size→b≠g'→(sortWorldK dY 32 w g' 0 n S.toArray os).heap[b]? =w.heap[b]? :=fun b hb hne=>by
   simp only[sortWorldK,putRowK,grow,putRow,mapBlock,Sort.ahead];rw[Array.getElem?_append_left (by simpa using hb),Array.getElem?_modify,if_neg (fun h=>hne h.symm)]
  have hthis:(sortWorldK dY 32 w g' 0 n S.toArray os).heap[g']? =some (.cells (putCells id 0 (flatK dY 32 S.toArray) cur) e (0,0)):=by
   simp only[sortWorldK,putRowK,grow,putRow,mapBlock,Sort.ahead];rw[Array.getElem?_append_left (by simpa using hgs),Array.getElem?_modify,if_pos rfl,hg];rfl
  have hs2:Stay2 w (Own ρ) (sortWorldK dY 32 w g' 0 n S.toArray os) (Own ρ):=⟨fun b hb hno=>hother b hb (fun e'=>hno ⟨0,_,hρ,by rw[e'];rfl⟩),fun _ h=> .inl h,by simp[sortWorldK,putRowK,grow,putRow,mapBlock,Sort.ahead],rfl,rfl,rfl⟩;refine⟨.tup [],_,ρ,.tuple #[],rfl,⟨rfl,S,hperm,hsrt,rfl⟩,⟨hrt _,⟨fun i o ho=>?_,fun i hi=>hS.none i ?_,hS.apart,hS.xb⟩,by simp[HV.men,HV.menL],fun i o ho=>?_,hs2,Moves.refl _ _⟩⟩
  ·
   simp only[fob_at,fob_nil]at ho;split at ho
   ·
    rename_i e0;subst e0;cases ho;refine⟨_,S.flatMap dY,hρ,lS.2 rfl,fun v hv=>?_,by rw[rT,List.length_map],.inr ⟨g',cap,putCells id 0 (flatK dY 32 S.toArray) cur,by simp[hSl],Nat.zero_le _,hthis,by simp[hSl];exact hcap,hmax,?_,?_⟩⟩
    · obtain⟨s,_,rfl⟩:=List.mem_map.1 hv;exact dg_cells s
    · rw[←hcsz];simp[putCells]
    · have h1:=xQ (flatK dY 32 S.toArray) cur (by rw[size_flatK,hcsz];simp only[List.size_toArray,hSl];exact Nat.mul_le_mul_right _ hcap);rw[xP,size_flatK]at h1;simpa using h1
   · cases ho
  ·
   simp only[fob_at,fob_nil]at hi⊢;split at hi
   · cases hi
   · rename_i hne;rw[if_neg hne]
  ·
   simp only[fob_at,fob_nil]at ho;split at ho
   · rename_i e0;subst e0;cases ho;exact⟨by omega,trivial⟩
   · cases ho
theorem aV1 {av:List Nat}{f g:FuncId}{ob:Ob}{nid id n:Nat}{K:HV→Ob→Prop}(h:aV0 P lt f g e l)(hid:ob id=some (.row e 32 (l.map dg)))(hn:n=l.length)(hav:id∉av)
  (hfree:Free4 ob nid) (hK: ∀l':List Dig,l'.Perm l→l'.Pairwise (fun a b=>lt b a=false)→K (.tup []) (upd ob id (some (.row e 32 (l'.map dg))))):HCall P av f [.own id n,.c (.fn g)] ob nid K:=by
 have h0:sub [id] nid 0=id:=rfl;subst hn;refine⟨[id],_,_,_,h,zD (by simp[HV.menL,HV.men]),⟨by simp,by simpa using hav⟩,by simp only[HV.renL,HV.ren,h0],fun j o hj=>?_,fun r lob' hR _=>?_⟩
 ·
  simp only[fob_at,fob_nil]at hj;split at hj
  · rename_i e0;subst e0;cases hj;simpa[HO.ren]using hid
  · cases hj
 · obtain⟨rfl,l',hp,hq,rfl⟩:=hR;rw[aJ9 hfree];exact hK l' hp hq
end Go.Hl
namespace Go.Proofs.YthedbjfipmkpiaaGreatDoor
open Go.RowKit Go.Sort Go.Shelf
def aP3 :Go.Shelf.Ren:=⟨fun|6=>54|15=>89|14=>88|28=>120|29=>121|20=>112|21=>113|22=>114|23=>115|24=>116|25=>117|26=>118|27=>119|46=>139|47=>140|48=>141|49=>142|50=>143|57=>165|n=>n,fun|22=>39|24=>44|25=>105|3=>3|39=>72|0=>0|53=>168|55=>135|4=>4|46=>162|45=>161|50=>81|5=>5|9=>9|66=>184|70=>188|76=>202|77=>203|n=>n,fun|n=>n⟩
theorem bB1 :Go.Proofs.SlLaysF0.n6 Tryz.prog aP3:={
  mixed:=by kernel_rfl
  f6:=⟨Tryz.f54.name,by decide,Tryz.func54.trans (congrArg some (by kernel_rfl))⟩
  f14:=⟨Tryz.f88.name,by decide,Tryz.func88.trans (congrArg some (by kernel_rfl))⟩
  f15:=Tryz.func89.trans (congrArg some (by kernel_rfl))
  f20:=⟨Tryz.f112.name,by decide,Tryz.func112.trans (congrArg some (by kernel_rfl))⟩
  f21:=⟨Tryz.f113.name,by decide,Tryz.func113.trans (congrArg some (by kernel_rfl))⟩
  f22:=⟨Tryz.f114.name,by decide,Tryz.func114.trans (congrArg some (by kernel_rfl))⟩
  f23:=⟨Tryz.f115.name,by decide,Tryz.func115.trans (congrArg some (by kernel_rfl))⟩
  f24:=⟨Tryz.f116.name,by decide,Tryz.func116.trans (congrArg some (by kernel_rfl))⟩
  f25:=⟨Tryz.f117.name,by decide,Tryz.func117.trans (congrArg some (by kernel_rfl))⟩
  f26:=⟨Tryz.f118.name,by decide,Tryz.func118.trans (congrArg some (by kernel_rfl))⟩
  f27:=⟨Tryz.f119.name,by decide,Tryz.func119.trans (congrArg some (by kernel_rfl))⟩
  f28:=Tryz.func120.trans (congrArg some (by kernel_rfl))
  f29:=Tryz.func121.trans (congrArg some (by kernel_rfl))
  f46:=⟨Tryz.f139.name,by decide,Tryz.func139.trans (congrArg some (by kernel_rfl))⟩
  f47:=Tryz.func140.trans (congrArg some (by kernel_rfl))
  f48:=Tryz.func141.trans (congrArg some (by kernel_rfl))
  f49:=⟨Tryz.f142.name,by decide,Tryz.func142.trans (congrArg some (by kernel_rfl))⟩
  f50:=⟨Tryz.f143.name,by decide,Tryz.func143.trans (congrArg some (by kernel_rfl))⟩
  f57:=⟨Tryz.f165.name,by decide,Tryz.func165.trans (congrArg some (by kernel_rfl))⟩
  t0:=Tryz.underlying0
  a0:=Tryz.isAgg0
  z0:=Tryz.sizeOf0
  v0:=Tryz.zeroValue0
  t3:=Tryz.underlying3
  a3:=Tryz.isAgg3
  z3:=Tryz.sizeOf3
  v3:=Tryz.zeroValue3
  t4:=Tryz.underlying4
  a4:=Tryz.isAgg4
  z4:=Tryz.sizeOf4
  v4:=Tryz.zeroValue4
  t5:=Tryz.underlying5
  a5:=Tryz.isAgg5
  z5:=Tryz.sizeOf5
  v5:=Tryz.zeroValue5
  t9:=Tryz.underlying9
  a9:=Tryz.isAgg9
  z9:=Tryz.sizeOf9
  v9:=Tryz.zeroValue9
  t22:=Tryz.underlying39
  a22:=Tryz.isAgg39
  z22:=Tryz.sizeOf39
  v22:=Tryz.zeroValue39
  t25:=Tryz.underlying105
  a25:=Tryz.isAgg105
  z25:=Tryz.sizeOf105
  v25:=Tryz.zeroValue105
  t39:=Tryz.underlying72
  a39:=Tryz.isAgg72
  z39:=Tryz.sizeOf72
  v39:=Tryz.zeroValue72
  t45:=Tryz.underlying161
  a45:=Tryz.isAgg161
  z45:=Tryz.sizeOf161
  v45:=Tryz.zeroValue161
  t46:=Tryz.underlying162
  a46:=Tryz.isAgg162
  z46:=Tryz.sizeOf162
  v46:=Tryz.zeroValue162
  t50:=Tryz.underlying81
  a50:=Tryz.isAgg81
  z50:=Tryz.sizeOf81
  v50:=Tryz.zeroValue81
  t53:=Tryz.underlying168
  a53:=Tryz.isAgg168
  z53:=Tryz.sizeOf168
  v53:=Tryz.zeroValue168
  t55:=Tryz.underlying135
  a55:=Tryz.isAgg135
  z55:=Tryz.sizeOf135
  v55:=Tryz.zeroValue135
  t66:=Tryz.underlying184
  a66:=Tryz.isAgg184
  z66:=Tryz.sizeOf184
  v66:=Tryz.zeroValue184
  t70:=Tryz.underlying188
  a70:=Tryz.isAgg188
  z70:=Tryz.sizeOf188
  v70:=Tryz.zeroValue188
  t76:=Tryz.underlying202
  a76:=Tryz.isAgg202
  z76:=Tryz.sizeOf202
  v76:=Tryz.zeroValue202
  t77:=Tryz.underlying203
  a77:=Tryz.isAgg203
  z77:=Tryz.sizeOf203
  v77:=Tryz.zeroValue203}
theorem bV7 (l:List Pl.Dig)(hl:l.length<2^40):Hl.aV0 Tryz.prog (ltOf fun x y:Pl.Dig=>Hl.jR x.1 y.1) 54 55 44 l:=
  Hl.bJ1 (by kernel_rfl) (fun blk cap w hH hb=>(AnyQ.slices_SortFunc bB1 32 Tryz.isAgg44 Tryz.sizeOf44 Hl.dY Hl.lR (fun x v hv=>by obtain⟨b,_,rfl⟩:=List.mem_map.1 hv;rfl) (fun x y=>Hl.jR x.1 y.1) bV6 55 #[] blk 0 cap l.toArray w
    (enters_of Tryz.func55 (by kernel_rfl) rfl) (aU9 blk _ w) hH hb (by simp;omega)).mono (fun _ _ ⟨h1,d',n,os,h2,h2',h3⟩=>⟨h1,d',n,os,by simpa using h2,by simpa using h2',h3⟩)) (fun cap w=>AnyF.slices_SortFunc_none bB1 none cap _ w)
end Go.Proofs.YthedbjfipmkpiaaGreatDoor
namespace Go.Proofs.YthedbjfipmkpiaaGreatDoor
open Go Go.Hl Go.Pl
set_option maxRecDepth 10000
set_option maxHeartbeats 8000000
theorem iK {X:List Ln}{i:Nat}(h:i<X.length):dL (X.take (i+1))=dL (X.take i)++X[i].d:=by
 unfold dL;rw[List.take_succ_eq_append_getElem h,List.flatMap_append];simp only[List.flatMap_cons,List.flatMap_nil,List.append_nil]
theorem docsL_le (X:List Ln)(i:Nat):(dL (X.take i)).length≤(dL X).length:=by
 have h:dL X=dL (X.take i)++dL (X.drop i):=by
  unfold dL;rw[←List.flatMap_append,List.take_append_drop]
 rw[h,List.length_append];omega
open Go.Sort Go.RowKit Go.Shelf in
theorem cI6 (a b:Dig):ltOf (fun x y:Dig=>jR x.1 y.1) a b=slt a.1 b.1:=by
 show decide (jR a.1 b.1<0)=slt a.1 b.1;unfold jR;by_cases h:slt a.1 b.1=true
 · simp[h]
 have h':slt a.1 b.1=false:=by simpa using h
 rw[h'];by_cases h2:a.1=b.1<;>simp[h2]
theorem bB2 (d:Dv)(hl:d.l.length<2^38)(hd:(dL d.l).length<2^38):cK Tryz.prog 24 [d.cv] (fun v=> ∃K:List Dig,v= .slc (K.map dg)∧dws K=aB5 d.l):=by
 refine bA Tryz.func24 rfl (by kernel_rfl) (bB _) (Nat.le_of_ble_eq_true rfl) ?_;refine aD fun K hK=>aC (by kernel_rfl) ?_;simp (maxSteps:=4000000) only[↓sP,sA,tyS,simprocAttr];repeat refine AI ?_
 refine hK _ _ _ ?_;clear hK K;refine aD fun K hK=>aC (by kernel_rfl) ?_;simp (maxSteps:=4000000) only[↓sP,sA,tyS,simprocAttr];repeat refine AI ?_
 refine hK _ _ _ ?_;clear hK K;refine aD fun K hK=>?_;refine aD fun K hK=>aC (by kernel_rfl) ?_;simp only[sR,simprocAttr];iterate 4
  (refine aB (g:=none) rfl rfl fun K' hK'=>?_;simp only[sH,↓sP,sA,tyS,simprocAttr];(repeat refine AI ?_);refine hK' _ _ ?_;clear hK' K')
 simp only[sE,↓reduceIte,simprocAttr];repeat refine AI ?_
 refine hK _ _ _ ?_;clear hK K;refine aL ?_;refine iE 3 0 44 32 rfl rfl rfl rfl ?_;refine bR (α:={i:Nat//i≤d.l.length}) (fun i=>(fin [(3,.own 28 (dL (d.l.take i.1)).length),(7,.c (.slc (d.l.map Ln.cv))),(8,.c (.int .i64 d.l.length)),(9,.c (.int .i64 i.1))],fob [(28,.row 44 32 ((dL (d.l.take i.1)).map dg))])) 200 (fun i=>d.l.length-i.1) ⟨0,by omega⟩ (aG (by omega) (by simp[aX,fin_at,finA_at,upd_at,HV.men,HV.menL,HV.norm,HV.toC,HV.toCL,dL]) (by simp[aZ,fob_at,upd_at,none0_at,bL,HO.men,HV.men,HV.menL,HV.norm,HV.toC,HV.toCL,dL])) ?_;rintro⟨i,hi⟩;refine aD fun K hK=>aC (by kernel_rfl) ?_;simp (maxSteps:=4000000) only[↓sP,sA,tyS,simprocAttr];repeat refine AI ?_
 refine hK _ _ _ ?_;clear hK K;refine aD fun K hK=>?_;refine aF (b:=decide ((i:Int)<d.l.length)) rfl (fun hb=>?_) (fun hb=>?_)
 ·
  have hlt:i<d.l.length:=by have:=of_decide_eq_true hb;omega
  have hle:=docsL_le d.l (i+1);rw[iK hlt,List.length_append]at hle;have hcd:(∀v∈d.l[i].d.map dg,v.cells=32)=True:=eq_true fun v hv=>by
   obtain⟨x,_,rfl⟩:=List.mem_map.1 hv;exact dg_cells x
  clear hb;refine aK ?_;simp (maxSteps:=4000000) only[↓sP,sA,tyS,simprocAttr];repeat refine AI ?_
  refine hK _ _ _ ?_;clear hK K;refine aD fun K hK=>?_;refine aL ?_;refine aD fun K hK=>aC (by kernel_rfl) ?_;simp only[sR,simprocAttr];iterate 4
   (refine aB (g:=none) rfl rfl fun K' hK'=>?_;simp only[sH,↓sP,sA,tyS,simprocAttr,Int.natCast_nonneg,Int.ofNat_lt,hlt,aY hlt];(repeat refine AI ?_);refine hK' _ _ ?_;clear hK' K')
  simp only[sE,↓reduceIte,simprocAttr];repeat refine AI ?_
  refine hK _ _ _ ?_;clear hK K;refine aC (by kernel_rfl) ?_;simp only[sR,simprocAttr];iterate 5
   (refine aB (g:=none) rfl rfl fun K' hK'=>?_;simp only[sH,↓sP,sA,tyS,simprocAttr,List.length_map,hcd];(repeat refine AI ?_);refine hK' _ _ ?_;clear hK' K')
  simp only[sE,↓reduceIte,simprocAttr];repeat refine AI ?_
  refine hK _ _ _ ?_;clear hK K;refine aC (by kernel_rfl) ?_;simp (maxSteps:=4000000) only[↓sP,sA,tyS,simprocAttr,IntWalk.i64_in _ (show-9223372036854775808≤(i:Int)+1∧(i:Int)+1≤9223372036854775807 by omega)];refine⟨⟨i+1,by omega⟩,(aG (by omega) (by simp[aX,fin_at,finA_at,upd_at,HV.men,HV.menL,HV.norm,HV.toC,HV.toCL,iK hlt,List.map_append,List.length_append]) (by simp[aZ,fob_at,upd_at,none0_at,bL,HO.men,HV.men,HV.menL,HV.norm,HV.toC,HV.toCL,iK hlt,List.map_append,List.length_append])),?_⟩;show d.l.length-(i+1)<d.l.length-i;omega
 have hie:i=d.l.length:=by have:=of_decide_eq_false hb;omega
 subst hie;clear hb;rw[List.take_length];refine bJ ?_;simp (maxSteps:=4000000) only[↓sP,sA,tyS,simprocAttr];clear hK K;repeat refine AI ?_
 refine hK _ _ _ ?_;clear hK K;refine aD fun K hK=>aC (by kernel_rfl) ?_;simp only[sR,simprocAttr];refine aB (g:=none) rfl rfl fun K' hK'=>?_;simp (maxSteps:=4000000) only[sH,↓sP,sA,tyS,simprocAttr];repeat refine AI ?_
 refine hK' _ _ ?_;clear hK' K';refine aB (g:=none) rfl rfl fun K' hK'=>?_;simp (maxSteps:=4000000) only[sH,↓sP,sA,tyS,simprocAttr];refine aV1 (bV7 (dL d.l) (by omega)) rfl (by simp) (by simp) ⟨rfl,rfl,rfl,rfl⟩ ?_;rintro s hp hs;have hsl:=hp.length_eq;repeat refine AI ?_
 refine hK' _ _ ?_;clear hK' K';simp only[sE,↓reduceIte,simprocAttr];repeat refine AI ?_
 refine hK _ _ _ ?_;clear hK K;refine aD fun K hK=>aC (by kernel_rfl) ?_;simp only[sR,simprocAttr];refine aB (g:=none) rfl rfl fun K' hK'=>?_;simp (maxSteps:=4000000) only[sH,↓sP,sA,tyS,simprocAttr];repeat refine AI ?_
 refine hK' _ _ ?_;clear hK' K';refine aB (g:=none) rfl rfl fun K' hK'=>?_;simp (maxSteps:=4000000) only[sH,↓sP,sA,tyS,simprocAttr];refine bM7 (aP0 s (by omega)) (by simp[HV.menL]) (by simp[HV.renL]) rfl (by simp;omega) (by simp) ⟨rfl,rfl,rfl,rfl⟩ ?_;rintro l' ⟨Q,rfl,hQ⟩;repeat refine AI ?_
 refine hK' _ _ ?_;clear hK' K';refine aB (g:=none) rfl rfl fun K' hK'=>?_;simp (maxSteps:=4000000) only[sH,↓sP,sA,tyS,simprocAttr];repeat refine AI ?_
 refine hK' _ _ ?_;clear hK' K';simp only[sE,↓reduceIte,simprocAttr];repeat refine AI ?_
 refine hK _ _ _ ?_;clear hK K;refine aJ ?_;simp (maxSteps:=4000000) only[aR,Tryz.results24,aP,aQ,aN,↓sP,sA,tyS,simprocAttr];refine aI [216] (.slc (Q.map dg)) (by simp[HV.close,fob_at,upd_at,bX3,HV.norm,HV.toC]) ⟨Q,rfl,?_⟩;rw[hQ,aB5];refine bH9 hp (hs.imp fun {a b} h=>?_);rw[←cI6];exact h
end Go.Proofs.YthedbjfipmkpiaaGreatDoor
namespace Go.Pl
open Go Go.Hl
def tr1 :List Nd:=[⟨1,0,0,⟨1,1,0,[]⟩⟩]
def sp1 :List Sp:=[⟨true,[dg1 4],0⟩]
def ln1 :List Ln:=[⟨1,0,[dg1 4],[]⟩,⟨5,0,[],[0]⟩]
def dv1 :Dv:={dv0 with l:=ln1}
theorem cE7 :lH tr1 (dV sp1)=true:=by decide+kernel
theorem cI7 :pI tr1 sp1=ln1:=by
 have h:aK5 tr1 sp1=[⟨1,0,[dg1 4],[]⟩]:=rfl;unfold pI;rw[if_pos cE7,h];rfl
theorem aV2 :gR dv1=[[wDer,[],[],iT zdg,[48],iT zdg,[48]],[wOrg,iT zdg,[],[]],[mO,[48]],[mQ,iT (dg1 4)],[wW,[48],[48]]]:=by
 simp only[gR,jS,dv1,dv0,qs0,og0,ln1,List.flatMap_cons,List.flatMap_nil,dN,firstL,wordK,zX,List.map_cons,List.map_nil,kZ,List.cons_append,List.nil_append,if_true];rfl
theorem cI8 :dvE dv1=0:=by
 unfold dvE;rw[if_pos (by decide+kernel),aV2];decide+kernel
theorem pX :ddE (dvO dv1)=0∧(ddO (dvO dv1)).l.length=2:=by
 obtain⟨h1,h2,h3⟩:=bR1 cI8 rfl;rw[h2,h3];exact⟨rfl,rfl⟩
end Go.Pl
namespace Go.Proofs.YthedbjfipmkpiaaGreatDoor
open Go Go.Hl Go.Pl
set_option maxRecDepth 10000
set_option maxHeartbeats 4000000
theorem cM8 :DvW dv1:=by
 refine⟨by decide,by decide,fun x hx=>?_,by rw[aV2];decide,by decide⟩;simp only[dv1,ln1,List.mem_cons,List.not_mem_nil,or_false]at hx;rcases hx with rfl|rfl
 · exact⟨by decide,by decide,by simp,by simp,by simp⟩
 exact⟨by decide,by decide,fun n hn=>by obtain rfl:=List.mem_singleton.1 hn;decide,by simp,by simp⟩
theorem cD1 :(dvO dv1).length<2^40:=by
 have h:dvO dv1=qU (gR dv1):=(bQ9 cI8).2.2;rw[h,aV2];decide+kernel
theorem cM9 :(aB5 dv1.l).length=1:=by decide+kernel
theorem aP4 :nL Tryz.prog 17 tabs [] (fun v=>v= .bool true):=by
 refine bA (args:=[]) Tryz.func17 rfl (by kernel_rfl) (fR tabs []) (Nat.le_of_ble_eq_true rfl) ?_;unfold fN;refine aD fun K hK=>aC (by kernel_rfl) ?_;simp (maxSteps:=4000000) only[↓sP,sA,tyS,simprocAttr];repeat refine AI ?_
 refine hK _ _ _ ?_;clear hK K;refine aD fun K hK=>cI (by kernel_rfl) ?_;simp only[sR,simprocAttr];iterate 2
  (refine bE (g:=none) rfl rfl fun K' hK'=>?_;simp only[sH,↓sP,sA,tyS,simprocAttr];(repeat refine AI ?_);refine hK' _ _ ?_;clear hK' K')
 refine dT (g:=none) 13 rfl rfl fun K' hK'=>?_;simp (maxSteps:=4000000) only[gT,kC,sH,↓sP,sA,tyS,simprocAttr];repeat refine AI ?_
 refine cZ (by first|rfl|simp) ?_;try simp (maxSteps:=4000000) only[sH,↓sP,sA,tyS,simprocAttr]
 repeat refine AI ?_
 refine hK' _ _ ?_;clear hK' K';refine bE (g:=none) rfl rfl fun K' hK'=>?_;simp (maxSteps:=4000000) only[sH,↓sP,sA,tyS,simprocAttr];repeat refine AI ?_
 refine hK' _ _ ?_;clear hK' K';simp only[sE,↓reduceIte,simprocAttr];repeat refine AI ?_
 refine hK _ _ _ ?_;clear hK K;refine aD fun K hK=>cI (by kernel_rfl) ?_;simp only[sR,simprocAttr];iterate 2
  (refine bE (g:=none) rfl rfl fun K' hK'=>?_;simp only[sH,↓sP,sA,tyS,simprocAttr];(repeat refine AI ?_);refine hK' _ _ ?_;clear hK' K')
 refine dT (g:=none) 29 rfl rfl fun K' hK'=>?_;simp (maxSteps:=4000000) only[gT,kC,sH,↓sP,sA,tyS,simprocAttr];repeat refine AI ?_
 refine cZ (by first|rfl|simp) ?_;try simp (maxSteps:=4000000) only[sH,↓sP,sA,tyS,simprocAttr]
 repeat refine AI ?_
 refine hK' _ _ ?_;clear hK' K';refine bE (g:=none) rfl rfl fun K' hK'=>?_;simp (maxSteps:=4000000) only[sH,↓sP,sA,tyS,simprocAttr];repeat refine AI ?_
 refine hK' _ _ ?_;clear hK' K';refine dT (g:=none) 37 rfl rfl fun K' hK'=>?_;simp (maxSteps:=4000000) only[gT,kC,sH,↓sP,sA,tyS,simprocAttr];repeat refine AI ?_
 refine cZ (by first|rfl|simp) ?_;try simp (maxSteps:=4000000) only[sH,↓sP,sA,tyS,simprocAttr]
 repeat refine AI ?_
 refine hK' _ _ ?_;clear hK' K';refine bE (g:=none) rfl rfl fun K' hK'=>?_;simp (maxSteps:=4000000) only[sH,↓sP,sA,tyS,simprocAttr];refine cM (args:=[_,_]) (bV5 tr1 (by simp[tr1]) sp1 (by decide) (by simp[sp1])) ⟨rfl,rfl,rfl,rfl⟩ ?_;rintro u v ⟨rfl,rfl⟩;rw[cE7,cI7];repeat refine AI ?_
 refine hK' _ _ ?_;clear hK' K';iterate 5
  (refine bE (g:=none) rfl rfl fun K' hK'=>?_;simp only[sH,↓sP,sA,tyS,simprocAttr];(repeat refine AI ?_);refine hK' _ _ ?_;clear hK' K')
 simp only[sE,↓reduceIte,simprocAttr];repeat refine AI ?_
 refine hK _ _ _ ?_;clear hK K;refine aD fun K hK=>aC (by kernel_rfl) ?_;simp only[sR,simprocAttr];iterate 4
  (refine aB (g:=none) rfl rfl fun K' hK'=>?_;simp only[sH,↓sP,sA,tyS,simprocAttr,dE,dF];(repeat refine AI ?_);refine hK' _ _ ?_;clear hK' K')
 simp only[sE,↓reduceIte,simprocAttr];repeat refine AI ?_
 refine hK _ _ _ ?_;clear hK K;refine bV (fr2:=fin [(2,.c (.slc (ln1.map Ln.cv))),(3,.c (.bool true)),(4,.ptr 73 0)]) (ob2:=fob [(0,.tab tabs),(73,.box 50 (.c dv1.cv))]) (nx2:=100) (aG (by omega) (by simp[aX,fin_at,finA_at,upd_at,HV.men,HV.menL,HV.norm,HV.toC,HV.toCL]) (by simp[aZ,fob_at,upd_at,none0_at,bL,HO.men,HV.men,HV.menL,HV.norm,HV.toC,HV.toCL];rfl)) ?_;refine aD fun K hK=>aC (by kernel_rfl) ?_;simp only[sR,simprocAttr];refine aB (g:=none) rfl rfl fun K' hK'=>?_;simp (maxSteps:=4000000) only[sH,↓sP,sA,tyS,simprocAttr];repeat refine AI ?_
 refine hK' _ _ ?_;clear hK' K';refine aB (g:=none) rfl rfl fun K' hK'=>?_;simp (maxSteps:=4000000) only[sH,↓sP,sA,tyS,simprocAttr];refine eR (args:=[_]) 0 (xI dv1 cM8) rfl (by simp) ⟨rfl,rfl,rfl,rfl⟩ ?_;rintro u v ⟨rfl,rfl⟩;rw[cI8];repeat refine AI ?_
 refine hK' _ _ ?_;clear hK' K';iterate 5
  (refine aB (g:=none) rfl rfl fun K' hK'=>?_;simp only[sH,↓sP,sA,tyS,simprocAttr];(repeat refine AI ?_);refine hK' _ _ ?_;clear hK' K')
 simp only[sE,↓reduceIte,simprocAttr];repeat refine AI ?_
 refine hK _ _ _ ?_;clear hK K;refine aD fun K hK=>aC (by kernel_rfl) ?_;simp only[sR,simprocAttr];refine aB (g:=none) rfl rfl fun K' hK'=>?_;simp (maxSteps:=4000000) only[sH,↓sP,sA,tyS,simprocAttr,bN];repeat refine AI ?_
 refine hK' _ _ ?_;clear hK' K';refine aB (g:=none) rfl rfl fun K' hK'=>?_;simp (maxSteps:=4000000) only[sH,↓sP,sA,tyS,simprocAttr,bN];refine eR (args:=[_]) 0 (cC2 (dvO dv1) cD1) rfl (by simp) ⟨rfl,rfl,rfl,rfl⟩ ?_;rintro u v ⟨rfl,rfl⟩;rw[pX.1];repeat refine AI ?_
 refine hK' _ _ ?_;clear hK' K';iterate 6
  (refine aB (g:=none) rfl rfl fun K' hK'=>?_;simp only[sH,↓sP,sA,tyS,simprocAttr,bN];(repeat refine AI ?_);refine hK' _ _ ?_;clear hK' K')
 simp only[sE,↓reduceIte,simprocAttr];repeat refine AI ?_
 refine hK _ _ _ ?_;clear hK K;refine aD fun K hK=>aC (by kernel_rfl) ?_;simp only[sR,simprocAttr];iterate 2
  (refine aB (g:=none) rfl rfl fun K' hK'=>?_;simp only[sH,↓sP,sA,tyS,simprocAttr,List.length_map,(show((ln1.length:Int)==2)=true from rfl),pX.2,(show(((2:Nat):Int)==2)=true from rfl),(show(((1:Nat):Int)==1)=true from rfl)];(repeat refine AI ?_);refine hK' _ _ ?_;clear hK' K')
 iterate 3
  (refine aB (g:=some (34,true)) rfl rfl fun K' hK'=>?_;simp only[sH,↓sP,sA,tyS,simprocAttr,List.length_map,(show((ln1.length:Int)==2)=true from rfl),pX.2,(show(((2:Nat):Int)==2)=true from rfl),(show(((1:Nat):Int)==1)=true from rfl)];(repeat refine AI ?_);refine hK' _ _ ?_;clear hK' K')
 iterate 2
  (refine aB (g:=none) rfl rfl fun K' hK'=>?_;simp only[sH,↓sP,sA,tyS,simprocAttr,List.length_map,(show((ln1.length:Int)==2)=true from rfl),pX.2,(show(((2:Nat):Int)==2)=true from rfl),(show(((1:Nat):Int)==1)=true from rfl)];(repeat refine AI ?_);refine hK' _ _ ?_;clear hK' K')
 refine aB (g:=some (39,true)) rfl rfl fun K' hK'=>?_;simp (maxSteps:=4000000) only[sH,↓sP,sA,tyS,simprocAttr,List.length_map,(show((ln1.length:Int)==2)=true from rfl),pX.2,(show(((2:Nat):Int)==2)=true from rfl),(show(((1:Nat):Int)==1)=true from rfl)];repeat refine AI ?_
 refine hK' _ _ ?_;clear hK' K';refine aB (g:=some (39,true)) rfl rfl fun K' hK'=>?_;simp (maxSteps:=4000000) only[sH,↓sP,sA,tyS,simprocAttr,List.length_map,(show((ln1.length:Int)==2)=true from rfl),pX.2,(show(((2:Nat):Int)==2)=true from rfl),(show(((1:Nat):Int)==1)=true from rfl)];refine aU (args:=[_]) (bB2 dv1 (by decide) (by decide)) ⟨rfl,rfl,rfl,rfl⟩ ?_;rintro u ⟨D0,rfl,hD0⟩;have hD1:D0.length=1:=by rw[←eK,hD0,cM9]
 repeat refine AI ?_
 refine hK' _ _ ?_;clear hK' K';refine aB (g:=some (39,true)) rfl rfl fun K' hK'=>?_;simp (maxSteps:=4000000) only[sH,↓sP,sA,tyS,simprocAttr,List.length_map,(show((ln1.length:Int)==2)=true from rfl),pX.2,(show(((2:Nat):Int)==2)=true from rfl),(show(((1:Nat):Int)==1)=true from rfl)];rw[hD1];repeat refine AI ?_
 refine hK' _ _ ?_;clear hK' K';refine aB (g:=some (39,true)) rfl rfl fun K' hK'=>?_;simp (maxSteps:=4000000) only[sH,↓sP,sA,tyS,simprocAttr,List.length_map,(show((ln1.length:Int)==2)=true from rfl),pX.2,(show(((2:Nat):Int)==2)=true from rfl),(show(((1:Nat):Int)==1)=true from rfl)];repeat refine AI ?_
 refine hK' _ _ ?_;clear hK' K';iterate 2
  (refine aB (g:=none) rfl rfl fun K' hK'=>?_;simp only[sH,↓sP,sA,tyS,simprocAttr,List.length_map,(show((ln1.length:Int)==2)=true from rfl),pX.2,(show(((2:Nat):Int)==2)=true from rfl),(show(((1:Nat):Int)==1)=true from rfl)];(repeat refine AI ?_);refine hK' _ _ ?_;clear hK' K')
 iterate 2
  (refine aB (g:=some (45,true)) rfl rfl fun K' hK'=>?_;simp only[sH,↓sP,sA,tyS,simprocAttr,List.length_map,(show((ln1.length:Int)==2)=true from rfl),pX.2,(show(((2:Nat):Int)==2)=true from rfl),(show(((1:Nat):Int)==1)=true from rfl)];(repeat refine AI ?_);refine hK' _ _ ?_;clear hK' K')
 iterate 2
  (refine aB (g:=none) rfl rfl fun K' hK'=>?_;simp only[sH,↓sP,sA,tyS,simprocAttr,List.length_map,(show((ln1.length:Int)==2)=true from rfl),pX.2,(show(((2:Nat):Int)==2)=true from rfl),(show(((1:Nat):Int)==1)=true from rfl)];(repeat refine AI ?_);refine hK' _ _ ?_;clear hK' K')
 iterate 2
  (refine aB (g:=some (49,true)) rfl rfl fun K' hK'=>?_;simp only[sH,↓sP,sA,tyS,simprocAttr,List.length_map,(show((ln1.length:Int)==2)=true from rfl),pX.2,(show(((2:Nat):Int)==2)=true from rfl),(show(((1:Nat):Int)==1)=true from rfl)];(repeat refine AI ?_);refine hK' _ _ ?_;clear hK' K')
 iterate 2
  (refine aB (g:=none) rfl rfl fun K' hK'=>?_;simp only[sH,↓sP,sA,tyS,simprocAttr,List.length_map,(show((ln1.length:Int)==2)=true from rfl),pX.2,(show(((2:Nat):Int)==2)=true from rfl),(show(((1:Nat):Int)==1)=true from rfl)];(repeat refine AI ?_);refine hK' _ _ ?_;clear hK' K')
 iterate 4
  (refine aB (g:=some (53,true)) rfl rfl fun K' hK'=>?_;simp only[sH,↓sP,sA,tyS,simprocAttr,List.length_map,(show((ln1.length:Int)==2)=true from rfl),pX.2,(show(((2:Nat):Int)==2)=true from rfl),(show(((1:Nat):Int)==1)=true from rfl)];(repeat refine AI ?_);refine hK' _ _ ?_;clear hK' K')
 iterate 2
  (refine aB (g:=none) rfl rfl fun K' hK'=>?_;simp only[sH,↓sP,sA,tyS,simprocAttr,List.length_map,(show((ln1.length:Int)==2)=true from rfl),pX.2,(show(((2:Nat):Int)==2)=true from rfl),(show(((1:Nat):Int)==1)=true from rfl)];(repeat refine AI ?_);refine hK' _ _ ?_;clear hK' K')
 simp only[sE,↓reduceIte,simprocAttr];repeat refine AI ?_
 refine hK _ _ _ ?_;clear hK K;refine aJ ?_;simp (maxSteps:=4000000) only[aR,Tryz.results17,aP,aQ,aN,↓sP,sA,tyS,simprocAttr];exact mD [] (.bool true) rfl rfl (by simp) rfl
set_option maxHeartbeats 2000000
theorem aP5 (w:aH)(hl:w.length<2^40):cK Tryz.prog 72 [.str w] (fun v=>v= .str (iW w)):=by
 refine bA Tryz.func72 rfl (by kernel_rfl) (bB _) (Nat.le_of_ble_eq_true rfl) ?_;refine R0 ?_;refine aD fun K hK=>?_;refine R0 ?_;refine aF (b:=w==[]) rfl (fun hb=>?_) (fun hb=>?_)
 · refine R0 ?_;refine aJ ?_;simp only[aR,Tryz.results72,aP,aQ,aN,↓sP,sA,tyS,simprocAttr];exact aI [] (.str [126]) rfl (by rw[iW,if_pos (by simpa using hb)])
 refine aK ?_;refine T0 (hK _ _ _ ?_);clear hK K;have hne:w≠[]:=by simpa using hb
 clear hb;refine R0 ?_;refine R0 ?_;refine aD fun K hK=>?_;refine R0 ?_;refine aL ?_;refine iE 4 0 5 1 rfl rfl rfl rfl ?_;refine bR (α:={i:Nat//i≤w.length}) (fun i=>(fin [(0,.c (.str w)),(3,.c (.str [48,49,50,51,52,53,54,55,56,57,65,66,67,68,69,70])),(4,.own 24 (cS (w.take i.1)).length),(5,.c (.int .i64 i.1))],fob [(24,.row 5 1 ((cS (w.take i.1)).map dD))])) 100 (fun i=>w.length-i.1) ⟨0,by omega⟩ (fF) ?_;rintro⟨i,hi⟩;have hle:=kX w i;have hle3:=qQ w;refine aD fun K hK=>?_;refine aD fun K hK=>Rg ?_;iterate 4 refine S0 ?_
 refine T2 (hK _ _ _ ?_);clear hK K;refine aF (b:=decide ((i:Int)<w.length)) rfl (fun hb=>?_) (fun hb=>?_)
 ·
  have hlt:i<w.length:=by simpa using hb
  have hgd:w.getD i 0=w[i]:=by simp[hlt]
  have hs:=pK hlt;refine aK ?_;refine T0 (hK _ _ _ ?_);clear hK K;refine aD fun K hK=>?_;refine aL ?_;refine aD fun K hK=>Rg ?_;iterate 3 refine S0 ?_ (e:=fun _ h_=>by simp only[sH,↓sP,sA,tyS,simprocAttr,Int.natCast_nonneg,Int.ofNat_lt,hlt,hgd];exact AX h_)
  refine aB (g:=none) rfl rfl fun K' hK'=>?_;simp only[sH,↓sP,sA,tyS,simprocAttr,Int.natCast_nonneg,Int.ofNat_lt,hlt,hgd];refine aU (args:=[_]) (bG7 w[i]) ⟨rfl,rfl,rfl,rfl⟩ ?_;rintro u rfl;refine AX (hK' _ _ ?_);clear hK' K';refine T2 (hK _ _ _ ?_);clear hK K;refine aF (b:=cY w[i]) rfl (fun hb=>?_) (fun hb=>?_)
  ·
   refine aC (by kernel_rfl) ?_;simp only[sR,simprocAttr];iterate 7 refine S0 ?_ (e:=fun _ h_=>by simp only[sH,↓sP,sA,tyS,simprocAttr,Int.natCast_nonneg,Int.ofNat_lt,hlt,hgd,List.length_append,List.length_map];exact AX h_)
   refine T2 (hK _ _ _ ?_);clear hK K;refine aC (by kernel_rfl) ?_;simp only[↓sP,sA,tyS,simprocAttr,lK i];refine⟨⟨i+1,hlt⟩,aG (by omega) ?_ ?_,?_⟩
   · rw[hs,kD,if_pos hb];simp[aX,upd_at,fin_at,HV.men]
   · rw[hs,kD,if_pos hb,List.map_append];exact⟨rfl,by omega,trivial,trivial⟩
   show w.length-(i+1)<w.length-i;omega
  have h16:((w[i].toNat/16:Nat):Int)<16:=by have:=w[i].toNat_lt;omega
  have h15:((w[i].toNat%16:Nat):Int)<16:=by omega
  refine cV mixed [(0,[],[]),(1,[],[]),(2,[],[]),(3,[],[]),(4,[],[]),(5,[],[]),(6,[],[]),(7,[],[]),(8,[],[]),(9,[],[]),(10,[],[]),(11,[],[]),(12,[],[]),(13,[],[]),(14,[],[]),(15,[],[])] [0,0,0,0,12,28,62,0,0,0,768,1792,3968,8190,16383,32767] (by kernel_rfl) (by kernel_rfl) (by kernel_rfl) (by kernel_rfl) rfl (by kernel_rfl) ?_;iterate 16 refine W0 ?_ (e:=fun _ h_=>by simp only[sH,↓sP,sA,tyS,simprocAttr,Int.natCast_nonneg,Int.ofNat_lt,hlt,hgd,List.length_append,List.length_map,cG3,bN7,h16,h15];exact AX h_)
  refine T2 (hK _ _ _ ?_);clear hK K;refine aC (by kernel_rfl) ?_;simp only[↓sP,sA,tyS,simprocAttr,lK i];refine⟨⟨i+1,hlt⟩,aG (by omega) ?_ ?_,?_⟩
  · rw[hs,kD,if_neg (by rw[hb];simp)];simp[aX,upd_at,fin_at,HV.men]
  · rw[hs,kD,if_neg (by rw[hb];simp),List.map_append];exact⟨rfl,by omega,trivial,trivial⟩
  show w.length-(i+1)<w.length-i;omega
 refine bJ ?_;simp only[↓sP,sA,tyS,simprocAttr];clear hK K;refine AX (hK _ _ _ ?_);clear hK K;refine dK [24] (bV (fr2:=fin [(4,.c (.slc ((cS (w.take i)).map dD)))]) (ob2:=fob []) (nx2:=200) (aG (by omega) (by simp[aX,eI,fin_at,finA_at,upd_at,fob_at,HV.close,HV.closeL,CV.denil,CV.denilL,bN,HV.men,HV.menL,HV.norm,HV.toC,HV.toCL]) (by simp[aZ,fM,fob_at,upd_at,none0_at,bL,HO.close,HV.close,HV.closeL,HO.men,HV.men,HV.menL,HV.norm,HV.toC,HV.toCL])) ?_);refine R0 ?_ (e:=fun _ h_=>by simp only[↓sP,sA,tyS,simprocAttr,bytesC_map];exact AX h_);refine aJ ?_;simp only[aR,Tryz.results72,aP,aQ,aN,↓sP,sA,tyS,simprocAttr];have hei:i=w.length:=by simp at hb;omega
 subst hei;exact aI [] (.str (cS w)) (by rw[List.take_length];rfl) (by rw[iW,if_neg hne])
theorem cD2 (ls:List (List aH))(h0:ls.length<2^40)(h1: ∀l∈ls,l.length<2^40):iG Tryz.prog 35 [.slc (ls.map fun l=> .slc (l.map .str))] (fun u v=>u= .slc ((qU ls).map dD)∧v= .int .i64 (nM ls)):=by
 refine bA Tryz.func35 rfl (by kernel_rfl) (bB _) (Nat.le_of_ble_eq_true rfl) ?_;refine R0 ?_;refine aD fun K hK=>?_;refine R0 ?_;refine aF (b:=decide ((1000:Int)<ls.length)) rfl (fun hb=>?_) (fun hb=>?_)
 · refine R0 ?_;refine aJ ?_;simp only[aR,Tryz.results35,aP,aQ,aN,↓sP,sA,tyS,simprocAttr];have hE:=zK (ls:=ls) (by simp at hb;omega);refine bH [] (.slc []) (.int .i64 3) ?_ ⟨by rw[iQ (by rw[hE];decide)];rfl,by rw[hE]⟩;simp[HV.close,HV.closeL,CV.denil,CV.denilL,HV.norm,HV.toC,HV.toCL]
 refine aK ?_;refine T0 (hK _ _ _ ?_);clear hK K;have hn:ls.length≤1000:=by simp at hb;omega
 clear hb;refine R0 ?_;refine aD fun K hK=>?_;refine R0 ?_;refine aL ?_;refine iE 4 0 5 1 rfl rfl rfl rfl ?_;refine bR (α:={i:Nat//i≤ls.length∧ ∀x∈ls.take i,okL x=true}) (fun i=>(fin [(0,.c (.slc (ls.map fun l=> .slc (l.map .str)))),(4,.own 28 (gC (ls.take i.1)).length),(5,.c (.int .i64 i.1))],fob [(28,.row 5 1 ((gC (ls.take i.1)).map dD))])) 100 (fun i=>ls.length-i.1) ⟨0,by omega,by simp⟩ (fF) ?_;rintro⟨i,hi,hk⟩;refine aD fun K hK=>?_;refine aD fun K hK=>Rg ?_;iterate 4 refine S0 ?_
 refine T2 (hK _ _ _ ?_);clear hK K;refine aF (b:=decide ((i:Int)<ls.length)) rfl (fun hb=>?_) (fun hb=>?_)
 ·
  have hlt:i<ls.length:=by simpa using hb
  clear hb;have hl1:=h1 ls[i] (List.getElem_mem hlt);have hne: ∀l∈ls.take i,l≠[]:=fun l hl=>((iM l).1 (hk l hl)).1;have hsd:=aX6 hk;rw[List.length_take]at hsd;have hdl:=qS hne;have hdt1:=zJ hlt;obtain⟨l,hl⟩: ∃l,l=ls[i]:=⟨_,rfl⟩;have hln:nth (ls.map fun l=>CV.slc (l.map .str)) i= .slc (l.map .str):=by rw[aY hlt,hl]
  rw[←hl]at hdt1 hl1;have hlti:(i:Int)<ls.length:=by omega
  refine aK ?_;refine T0 (hK _ _ _ ?_);clear hK K;refine aD fun K hK=>?_;refine aL ?_;refine aD fun K hK=>?_;refine aD fun K hK=>Rg ?_;iterate 6 refine S0 ?_ (e:=fun _ h_=>by simp only[sH,↓sP,sA,tyS,simprocAttr,Int.natCast_nonneg,Int.ofNat_lt,hlt,hln];exact AX h_)
  refine T2 (hK _ _ _ ?_);clear hK K;refine aF (b:=(l.length:Int)==0) rfl (fun hb=>?_) (fun hb=>?_)
  ·
   refine R0 ?_;refine aJ ?_;simp only[aR,Tryz.results35,aP,aQ,aN,↓sP,sA,tyS,simprocAttr];have hc:mE l=1:=by rw[mE,if_pos (by simp at hb;simp[hb])]
   have hE:=qV hn hlt hk (by rw[←hl,okL,hc];rfl);rw[←hl,hc]at hE;refine bH [] (.slc []) (.int .i64 1) ?_ ⟨by rw[iQ (by rw[hE];decide)];rfl,by rw[hE]⟩;simp[HV.close,HV.closeL,CV.denil,CV.denilL,HV.norm,HV.toC,HV.toCL]
  refine aK ?_;refine T0 (hK _ _ _ ?_);clear hK K;refine aD fun K hK=>?_;have hn0:l.length≠0:=by simp at hb;simp[hb]
  clear hb;refine aD fun K hK=>Rg ?_;iterate 6 refine S0 ?_ (e:=fun _ h_=>by simp only[sH,↓sP,sA,tyS,simprocAttr,Int.natCast_nonneg,Int.ofNat_lt,hlt,hln];exact AX h_)
  refine T2 (hK _ _ _ ?_);clear hK K;refine aF (b:=decide ((120:Int)<l.length)) rfl (fun hb=>?_) (fun hb=>?_)
  ·
   refine R0 ?_;refine aJ ?_;simp only[aR,Tryz.results35,aP,aQ,aN,↓sP,sA,tyS,simprocAttr];have hc:mE l=3:=by rw[mE,if_neg hn0,if_pos (by simp at hb;omega)]
   have hE:=qV hn hlt hk (by rw[←hl,okL,hc];rfl);rw[←hl,hc]at hE;refine bH [] (.slc []) (.int .i64 3) ?_ ⟨by rw[iQ (by rw[hE];decide)];rfl,by rw[hE]⟩;simp[HV.close,HV.closeL,CV.denil,CV.denilL,HV.norm,HV.toC,HV.toCL]
  refine aK ?_;refine T0 (hK _ _ _ ?_);clear hK K;refine aD fun K hK=>?_;have hn1:l.length≤120:=by simp at hb;omega
  clear hb;refine R0 ?_;refine aL ?_;refine bR (α:={k:Nat//k≤l.length∧ ∀x∈l.take k,x.length≤32768}) (fun k=>(fin [(0,.c (.slc (ls.map fun l=> .slc (l.map .str)))),(4,.own 28 (gC (ls.take i)++gV (l.take k.1)).length),(5,.c (.int .i64 i)),(6,.c (.int .i64 k.1))],fob [(28,.row 5 1 ((gC (ls.take i)++gV (l.take k.1)).map dD))])) 200 (fun k=>l.length-k.1) ⟨0,by omega,by simp⟩ (fF) ?_;rintro⟨k,hk',hkw⟩;have hsw:=bN9 (l.take k) hkw;rw[List.length_take]at hsw;refine aD fun K hK=>?_;refine aD fun K hK=>Rg ?_;iterate 7 refine S0 ?_ (e:=fun _ h_=>by simp only[sH,↓sP,sA,tyS,simprocAttr,Int.natCast_nonneg,hlti,hln];exact AX h_)
  refine T2 (hK _ _ _ ?_);clear hK K;refine aF (b:=decide ((k:Int)<l.length)) rfl (fun hb=>?_) (fun hb=>?_)
  ·
   have hlk:k<l.length:=by simpa using hb
   clear hb;refine aK ?_;refine T0 (hK _ _ _ ?_);clear hK K;refine aD fun K hK=>?_;refine aL ?_;refine aD fun K hK=>?_;refine aD fun K hK=>Rg ?_;iterate 9 refine S0 ?_ (e:=fun _ h_=>by simp only[sH,↓sP,sA,tyS,simprocAttr,Int.natCast_nonneg,Int.ofNat_lt,hlt,hln,hlk,aY hlk];exact AX h_)
   refine T2 (hK _ _ _ ?_);clear hK K;refine aF (b:=decide ((32768:Int)<l[k].length)) rfl (fun hb=>?_) (fun hb=>?_)
   ·
    refine R0 ?_;refine aJ ?_;simp only[aR,Tryz.results35,aP,aQ,aN,↓sP,sA,tyS,simprocAttr];have hc:mE l=3:=by rw[mE,if_neg hn0,if_neg (by omega),if_pos];simp only[List.any_eq_true,decide_eq_true_eq];exact⟨_,List.getElem_mem hlk,by simp at hb;omega⟩
    have hE:=qV hn hlt hk (by rw[←hl,okL,hc];rfl);rw[←hl,hc]at hE;refine bH [] (.slc []) (.int .i64 3) ?_ ⟨by rw[iQ (by rw[hE];decide)];rfl,by rw[hE]⟩;simp[HV.close,HV.closeL,CV.denil,CV.denilL,HV.norm,HV.toC,HV.toCL]
   refine aK ?_;refine T0 (hK _ _ _ ?_);clear hK K;refine aD fun K hK=>?_;have hw2:l[k].length≤32768:=by simp at hb;omega
   clear hb;have hel:=qR l[k];have hsz:=dX l[k];have hsp:=zH l[k];have hpe:0<(iW l[k]).length:=by omega
   have htk:=zI hlk;have hbe:(gC (ls.take i)).length+(gV (l.take k)).length+(iW l[k]).length≤140737488355328:=by omega
   have hbe1:(gC (ls.take i)).length+(gV (l.take k)).length+1+(iW l[k]).length≤140737488355328:=by omega
   refine R0 ?_;refine aF (b:=decide ((0:Int)<k)) rfl (fun hb=>?_) (fun hb=>?_)
   ·
    refine aC (by kernel_rfl) ?_;simp only[sR,simprocAttr];iterate 4 refine S0 ?_ (e:=fun _ h_=>by simp only[sH,↓sP,sA,tyS,simprocAttr,List.length_append,List.length_map];exact AX h_)
    refine T2 (hK _ _ _ ?_);clear hK K;refine aC (by kernel_rfl) ?_;simp only[sR,simprocAttr];iterate 8 refine S0 ?_ (e:=fun _ h_=>by simp only[sH,↓sP,sA,tyS,simprocAttr,Int.natCast_nonneg,Int.ofNat_lt,hlt,hln,hlk,aY hlk,List.length_append,List.length_map,hpe,hbe,hbe1];exact AX h_)
    refine aB (g:=none) rfl rfl fun K' hK'=>?_;simp only[sH,↓sP,sA,tyS,simprocAttr,Int.natCast_nonneg,Int.ofNat_lt,hlt,hln,hlk,aY hlk,List.length_append,List.length_map,hpe,hbe,hbe1];refine aU (args:=[_]) (aP5 l[k] (by omega)) ⟨rfl,rfl,rfl,rfl⟩ ?_;rintro u rfl;refine AX (hK' _ _ ?_);clear hK' K';iterate 2 refine S0 ?_ (e:=fun _ h_=>by simp only[sH,↓sP,sA,tyS,simprocAttr,Int.natCast_nonneg,Int.ofNat_lt,hlt,hln,hlk,aY hlk,List.length_append,List.length_map,hpe,hbe,hbe1];exact AX h_)
    refine T2 (hK _ _ _ ?_);clear hK K;refine aC (by kernel_rfl) ?_;simp only[↓sP,sA,tyS,simprocAttr,lK k];have hk0:k≠0:=by simp at hb;omega
    refine⟨⟨k+1,hlk,sV (p:=fun x=>x.length≤32768) hlk hw2 hkw⟩,aG (by omega) ?_ ?_,?_⟩
    · rw[htk,if_neg hk0];simp[aX,upd_at,fin_at,HV.men];omega
    · rw[htk,if_neg hk0];simp only[List.map_append,←List.append_assoc];exact⟨rfl,by omega,trivial,trivial⟩
    show l.length-(k+1)<l.length-k;omega
   refine aK ?_;refine T0 (hK _ _ _ ?_);clear hK K;refine aC (by kernel_rfl) ?_;simp only[sR,simprocAttr];iterate 8 refine S0 ?_ (e:=fun _ h_=>by simp only[sH,↓sP,sA,tyS,simprocAttr,Int.natCast_nonneg,Int.ofNat_lt,hlt,hln,hlk,aY hlk,List.length_append,List.length_map,hpe,hbe,hbe1];exact AX h_)
   refine aB (g:=none) rfl rfl fun K' hK'=>?_;simp only[sH,↓sP,sA,tyS,simprocAttr,Int.natCast_nonneg,Int.ofNat_lt,hlt,hln,hlk,aY hlk,List.length_append,List.length_map,hpe,hbe,hbe1];refine aU (args:=[_]) (aP5 l[k] (by omega)) ⟨rfl,rfl,rfl,rfl⟩ ?_;rintro u rfl;refine AX (hK' _ _ ?_);clear hK' K';iterate 2 refine S0 ?_ (e:=fun _ h_=>by simp only[sH,↓sP,sA,tyS,simprocAttr,Int.natCast_nonneg,Int.ofNat_lt,hlt,hln,hlk,aY hlk,List.length_append,List.length_map,hpe,hbe,hbe1];exact AX h_)
   refine T2 (hK _ _ _ ?_);clear hK K;refine aC (by kernel_rfl) ?_;simp only[↓sP,sA,tyS,simprocAttr,lK k];have hk0:k=0:=by simp at hb;omega
   refine⟨⟨k+1,hlk,sV (p:=fun x=>x.length≤32768) hlk hw2 hkw⟩,aG (by omega) ?_ ?_,?_⟩
   · rw[htk,if_pos hk0];simp[aX,upd_at,fin_at,HV.men];omega
   · rw[htk,if_pos hk0,List.nil_append];simp only[List.map_append,←List.append_assoc];exact⟨rfl,by omega,trivial,trivial⟩
   show l.length-(k+1)<l.length-k;omega
  have hek:k=l.length:=by simp at hb;omega
  subst hek;clear hb;rw[List.take_length]at*;have hokl:okL l=true:=(iM l).2 ⟨fun h=>hn0 (by rw[h];rfl),hn1,hkw⟩;refine bJ ?_;simp only[↓sP,sA,tyS,simprocAttr];clear hK K;refine AX (hK _ _ _ ?_);clear hK K;refine aC (by kernel_rfl) ?_;simp only[sR,simprocAttr];iterate 4 refine S0 ?_ (e:=fun _ h_=>by simp only[sH,↓sP,sA,tyS,simprocAttr,List.length_append,List.length_map,List.take_length];exact AX h_)
  refine T2 (hK _ _ _ ?_);clear hK K;refine aC (by kernel_rfl) ?_;simp only[↓sP,sA,tyS,simprocAttr,lK i];refine⟨⟨i+1,hlt,sV (p:=fun x=>okL x=true) hlt (by rw[←hl];exact hokl) hk⟩,aG (by omega) ?_ ?_,?_⟩
  · rw[hdt1,yE];simp[aX,upd_at,fin_at,HV.men];try omega
  · rw[hdt1,yE];simp only[List.map_append,←List.append_assoc,List.take_length];exact⟨rfl,by omega,trivial,trivial⟩
  show ls.length-(i+1)<ls.length-i;omega
 have hei:i=ls.length:=by simp at hb;omega
 subst hei;clear hb;rw[List.take_length]at hk;have hE:=aX7 hn hk;refine bJ ?_;simp only[↓sP,sA,tyS,simprocAttr];clear hK K;refine AX (hK _ _ _ ?_);clear hK K;refine aD fun K hK=>?_;refine R0 ?_ (e:=fun _ h_=>by simp only[↓sP,sA,tyS,simprocAttr,List.take_length,List.length_map];exact AX h_);refine aF (b:=decide ((262144:Int)<(gC ls).length)) rfl (fun hb=>?_) (fun hb=>?_)
 · refine R0 ?_;refine aJ ?_;simp only[aR,Tryz.results35,aP,aQ,aN,↓sP,sA,tyS,simprocAttr];rw[if_pos (by simp at hb;omega)]at hE;refine bH [] (.slc []) (.int .i64 3) ?_ ⟨by rw[iQ (by rw[hE];decide)];rfl,by rw[hE]⟩;simp[HV.close,HV.closeL,CV.denil,CV.denilL,HV.norm,HV.toC,HV.toCL]
 refine aK ?_;refine T0 (hK _ _ _ ?_);clear hK K;refine R0 ?_;refine aJ ?_;simp only[aR,Tryz.results35,aP,aQ,aN,↓sP,sA,tyS,simprocAttr];rw[if_neg (by simp at hb;omega)]at hE;refine bH [28] (.slc ((gC ls).map dD)) (.int .i64 0) ?_ ⟨by rw[aE7 hE],by rw[hE]⟩;simp[HV.close,fob_at,upd_at,HV.norm,HV.toC,HV.closeL,HV.toCL,List.take_of_length_le,CV.denil,bN]
end Go.Proofs.YthedbjfipmkpiaaGreatDoor
