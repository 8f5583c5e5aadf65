/- Part of a proof: walks of functions of the program, by contracts, and the rules they use. By an AI agent. -/
import Derived.Test.YthedbjfipmkpiaaGreatDoorHdUs
import Derived.Test.YthedbjfipmkpiaaGreatDoorHdSb
import Derived.Test.YthedbjfipmkpiaaGreatDoorPl18e
import Derived.Test.YthedbjfipmkpiaaGreatDoorHdU5
set_option linter.unusedSimpArgs false
set_option linter.unusedVariables false
set_option linter.defProp false
namespace Go.Proofs.YthedbjfipmkpiaaGreatDoor
open Go Go.Hl Go.Pl
set_option maxRecDepth 10000
set_option maxHeartbeats 8000000
def aF7 (s:Array Nat):Nat:=(List.range 5).countP fun j=>!s.contains j
variable {j:Nat}
theorem aN7 {s:Array Nat}(hj:j<5)(h:s.contains j=false):aF7 (s.push j)<aF7 s:=by
 have h':j∉s:=by simpa using h
 have hc: ∀i,(s.push j).contains i=(s.contains i||i==j):=fun i=>by
  rw[Bool.eq_iff_iff];simp[Array.mem_push]
 unfold aF7;simp only[hc];obtain rfl|rfl|rfl|rfl|rfl:j=0∨j=1∨j=2∨j=3∨j=4:=by omega
 all_goals
  simp only[show List.range 5=[0,1,2,3,4]from rfl,List.countP_cons,List.countP_nil];simp[h'];try omega
variable {w:aH}
theorem bI4 (h: ∀j,j<5→(wlK.getD j (0,[])).2≠w):lC w=none:=by
 have h0:=h 0 (by omega);have h1:=h 1 (by omega);have h2:=h 2 (by omega);have h3:=h 3 (by omega);have h4:=h 4 (by omega);simp only[wlK,List.getD_eq_getElem?_getD,List.getElem?_cons_zero,List.getElem?_cons_succ,Option.getD_some]at h0 h1 h2 h3 h4;unfold lC;rw[if_neg (Ne.symm h0),if_neg (Ne.symm h1),if_neg (Ne.symm h2),if_neg (Ne.symm h3),if_neg (Ne.symm h4)]
theorem bI5 (hj:j<5)(h:(wlK.getD j (0,[])).2=w):lC w=some (wlK.getD j (0,[])).1:=by
 subst h;obtain rfl|rfl|rfl|rfl|rfl:j=0∨j=1∨j=2∨j=3∨j=4:=by omega
 all_goals decide
theorem nY :wlK.length=5:=rfl
theorem cB5 (h:j<wlK.length):wlK[j]=wlK.getD j (0,[]):=by rw[List.getD_eq_getElem?_getD,List.getElem?_eq_getElem h];rfl
def cO1 (s:Array Nat):Option Nat→Prop
 |none=> ∀j,j<5→s.contains j=true
 |some j=>j<5∧s.contains j=false
def xA (s:Array Nat):Option Nat→Array Nat
 |none=>s
 |some j=>s.push j
theorem bI6 (x:CV)(l:List CV):nth (x::l) 0=x:=rfl
def lnZ :CV:= .agg [.int .i64 0,.int .i64 0,.nils,.nils]
def bA1 (w:List aH)(r:HV)(os':List HO):Prop:=
 ∃(k n:Int) (f:List Int),r= .tup [.agg [.c (.int .i64 k),.c (.int .i64 n),.own 0 0,.c (.slc (f.map (CV.int .i64)))],.c (.bool (eY w).isSome)]∧os'=[.row 44 32 []]∧ ∀x,eY w=some x→x=⟨k,n,[],f⟩
theorem bA2 {w:List aH}{ob:Ob}{r:HV}{k n:Int}{f:List Int}{fv:CV}{b:Bool}(N:Nat)(hr:r= .tup [.agg [.c (.int .i64 k),.c (.int .i64 n),.own N 0,.c fv],.c (.bool b)])(h0:ob N=some (.row 44 32 []))(hfv:fv.denil= .slc (f.map (CV.int .i64)))(h2:(eY w).isSome=b)(h1: ∀x,eY w=some x→x=⟨k,n,[],f⟩):
  iH 0 r ob (fun r ob'=> ∃os',ob'=lst os'∧(0≤os'.length∧os'.length≤0+4)∧bA1 w r os'):=by
 subst hr;refine gR [] [N] (.tup [.agg [.c (.int .i64 k),.c (.int .i64 n),.own 0 0,.c (.slc (f.map (CV.int .i64)))],.c (.bool b)]) [.row 44 32 []] ?_ (by simp[HV.men,HV.menL]) ⟨⟨by simp[HO.men],by simp,_,(by simpa[tau]using h0),rfl⟩,trivial⟩ rfl (by simp) (by simp) (by simp) ⟨k,n,f,by rw[h2],rfl,h1⟩;simp[HV.close,HV.closeL,CV.denil,hfv,HV.norm,HV.toC,HV.toCL,HV.ren,HV.renL,tau]
theorem cB6 (w:List aH)(hl:w.length<2^38)(h0:0<w.length):HGe Tryz.prog 96 [.c (.slc (w.map .str))] [] (bA1 w):=by
 refine bD (args:=[.c (.slc (w.map .str))]) Tryz.func96 rfl (by kernel_rfl) (eX rfl (by simp[dU]) (by simp[HV.menL,HV.men])) (Nat.le_of_ble_eq_true rfl) ?_;show Hw _ _ 0 _ _ _ (lst _) 0;rw[bT2];have hno: ∀{ob:Ob} {r:HV} (N:Nat),eY w=none→r= .tup [.agg [.c (.int .i64 0),.c (.int .i64 0),.own N 0,.c .nils],.c (.bool false)]→ob N=some (.row 44 32 [])→iH 0 r ob (fun r ob'=> ∃os',ob'=lst os'∧(0≤os'.length∧os'.length≤0+4)∧bA1 w r os'):=fun N h hr h0=>bA2 (f:=[]) N hr h0 rfl (by rw[h];rfl) (fun x hx=>by rw[h]at hx;cases hx);have htk:List.take (w.length-1) ((w.drop 1).map CV.str)=(w.drop 1).map .str:=List.take_of_length_le (by simp);have hdr:List.drop 1 (w.map CV.str)=(w.drop 1).map .str:=by rw[List.map_drop]
 refine aE fun K hK=>aD (by kernel_rfl) ?_;simp (maxSteps:=4000000) only[↓sP,sA,tyS,simprocAttr];repeat refine AI ?_
 refine hK _ _ _ ?_;clear hK K;refine aE fun K hK=>aD (by kernel_rfl) ?_;simp only[sR,simprocAttr];iterate 2
  (refine aC (g:=none) rfl rfl fun K' hK'=>?_;simp only[sH,↓sP,sA,tyS,simprocAttr,List.length_map,hdr];(repeat refine AI ?_);refine hK' _ _ ?_;clear hK' K')
 refine aC (g:=none) rfl rfl fun K' hK'=>?_;simp (maxSteps:=4000000) only[sH,↓sP,sA,tyS,simprocAttr,List.length_map,hdr];rw[htk,denilL_str];refine cS (args:=[_]) (wZ (w.drop 1) (by simp;omega)) ⟨rfl,rfl,rfl,rfl⟩ ?_;rintro u v ⟨rfl,rfl⟩;repeat refine AI ?_
 refine hK' _ _ ?_;clear hK' K';iterate 5
  (refine aC (g:=none) rfl rfl fun K' hK'=>?_;simp only[sH,↓sP,sA,tyS,simprocAttr,List.length_map,hdr];(repeat refine AI ?_);refine hK' _ _ ?_;clear hK' K')
 simp only[sE,↓reduceIte,simprocAttr];repeat refine AI ?_
 refine hK _ _ _ ?_;clear hK K;refine aE fun K hK=>?_;by_cases hs:(eQ (w.drop 1)).isSome=true
 ·
  by_cases hne:(eQ (w.drop 1)).getD []=[]
  ·
   obtain⟨ns,hns⟩:=Option.isSome_iff_exists.1 hs;rw[hns]at hne
   replace hne:ns=[]:=hne
   subst hne;rw[hns];refine aE fun K hK=>aD (by kernel_rfl) ?_;simp only[sR,simprocAttr];iterate 3
    (refine aC (g:=none) rfl rfl fun K' hK'=>?_;simp only[sH,↓sP,sA,tyS,simprocAttr,Option.getD_some,Option.isSome_some,List.map_nil];(repeat refine AI ?_);refine hK' _ _ ?_;clear hK' K')
   iterate 3
    (refine aC (g:=some (16,false)) rfl rfl fun K' hK'=>?_;simp only[sH,↓sP,sA,tyS,simprocAttr,Option.getD_some,Option.isSome_some,List.map_nil];(repeat refine AI ?_);refine hK' _ _ ?_;clear hK' K')
   refine aC (g:=none) rfl rfl fun K' hK'=>?_;simp (maxSteps:=4000000) only[sH,↓sP,sA,tyS,simprocAttr,Option.getD_some,Option.isSome_some,List.map_nil];repeat refine AI ?_
   refine hK' _ _ ?_;clear hK' K';simp only[sE,↓reduceIte,simprocAttr];repeat refine AI ?_
   refine hK _ _ _ ?_;clear hK K;refine aG (b:=true) rfl (fun hb=>?_) (fun hb=>?_)
   ·
    refine aE fun K hK=>aD (by kernel_rfl) ?_;simp (maxSteps:=4000000) only[↓sP,sA,tyS,simprocAttr];repeat refine AI ?_
    refine hK _ _ _ ?_;clear hK K;refine dX 0 2 44 32 rfl rfl rfl rfl ?_;refine aJ ?_;simp (maxSteps:=4000000) only[aT,Tryz.results96,aR,aS,aQ,↓sP,sA,tyS,simprocAttr];refine⟨rfl,?_⟩;first|(refine hno 412 (by rw[hlr,hkn];rfl) ?_ ?_<;>rfl)|(refine hno 80 (by unfold eY;rw[hns]) ?_ ?_<;>rfl)|(refine hok 504 ?_ ?_ ?_ ?_;rotate_left 2;rfl;rfl;(cases f<;>simp[hk1]<;>omega))
   cases hb
  obtain⟨ns,hns⟩:=Option.isSome_iff_exists.1 hs;rw[hns]at hne
  replace hne:ns≠[]:=hne
  rw[hns];refine aE fun K hK=>aD (by kernel_rfl) ?_;simp only[sR,simprocAttr];iterate 3
   (refine aC (g:=none) rfl rfl fun K' hK'=>?_;simp only[sH,↓sP,sA,tyS,simprocAttr,Option.getD_some,Option.isSome_some,List.length_map];(repeat refine AI ?_);refine hK' _ _ ?_;clear hK' K')
  iterate 3
   (refine aC (g:=some (16,false)) rfl rfl fun K' hK'=>?_;simp only[sH,↓sP,sA,tyS,simprocAttr,Option.getD_some,Option.isSome_some,List.length_map];(repeat refine AI ?_);refine hK' _ _ ?_;clear hK' K')
  refine aC (g:=none) rfl rfl fun K' hK'=>?_;simp (maxSteps:=4000000) only[sH,↓sP,sA,tyS,simprocAttr,Option.getD_some,Option.isSome_some,List.length_map];repeat refine AI ?_
  refine hK' _ _ ?_;clear hK' K';simp only[sE,↓reduceIte,simprocAttr];repeat refine AI ?_
  refine hK _ _ _ ?_;clear hK K;refine aG (b:=((ns.length:Int)==0)) rfl (fun hb=>?_) (fun hb=>?_)
  ·
   have h1:ns.length=0:=by have:=eq_of_beq hb;omega
   exact absurd (List.eq_nil_of_length_eq_zero h1) hne
  obtain⟨n,f,rfl⟩: ∃n f,ns=n::f:=by
   match ns,hne with
   |n::f,_=>exact⟨n,f,rfl⟩
  clear hb;have hlr:eY w=(lC (wd w 0)).bind fun k=>if k=1∧f≠[]then none else some (⟨k,n,[],f⟩:Ln):=by unfold eY;rw[hns]
  have hut:Tryz.prog.underlying 130=some (.map 3 9):=Tryz.underlying130;refine aK ?_;simp (maxSteps:=4000000) only[↓sP,sA,tyS,simprocAttr];repeat refine AI ?_
  refine hK _ _ _ ?_;clear hK K;refine aE fun K hK=>?_;refine aE fun K hK=>aY2 ?_;refine aL3 (g:=none) (by kernel_rfl) rfl rfl fun K' hK'=>?_;simp only[sH,↓sP,sA,tyS,simprocAttr];refine fG [] aN6 rfl trivial (by simp) (by simp) ⟨rfl,rfl,rfl,rfl⟩ (by simp[dU]) (by simp[HV.menL]) ?_;rintro r os' ⟨rfl,rfl⟩;rw[bT3,aZ9];repeat refine AI ?_
  refine hK' _ _ ?_;clear hK' K';refine bO4 (by kernel_rfl) rfl rfl rfl rfl hut rfl rfl ?_;refine wE rfl (hK _ _ _ ?_);clear hK K;refine aP ?_;refine bR (α:={s:Array Nat// ∀j,j<5→s.contains j=true→(wlK.getD j (0,[])).2≠wd w 0}) (fun s=>(fin [(0,.c (.slc (w.map .str))),(2,.ptr 0 0),(4,.c (.slc (CV.int .i64 n::f.map (CV.int .i64)))),(23,.ptr 72 0)],fob [(0,.box 41 (.c lnZ)),(68,.raw (gI wlK) 5),(72,.it 68 5 s.1 5)])) 200 (fun s=>aF7 s.1) ⟨#[],fun j _ h=>by simp at h⟩ (aI (by omega) (by simp[aY,fin_at,finA_at,upd_at,HV.men,HV.menL,HV.norm,HV.toC,HV.toCL,lnZ]) (by simp[bB,fob_at,upd_at,none0_at,bN,HO.men,HV.men,HV.menL,HV.norm,HV.toC,HV.toCL,lnZ])) ?_;rintro⟨s,hs⟩;refine aE fun K hK=>?_;have key: ∀(o:Option Nat) fr ob nx,cO1 s o→Fits 0 fr ob (fin [(0,.c (.slc (w.map .str))),(2,.ptr 0 0),(4,.c (.slc (CV.int .i64 n::f.map (CV.int .i64)))),(23,.ptr 72 0),(25,.c (.bool o.isSome))]) (fob [(0,.box 41 (.c lnZ)),(68,.raw (gI wlK) 5),(72,.it 68 5 (xA s o) 5)]) 400→K fr ob nx:=by
   rintro o fr ob nx ho hf;refine hK _ _ _ (bX hf ?_);clear hf hK K;refine aE fun K hK=>?_;refine aG (b:=o.isSome) rfl (fun hb=>?_) (fun hb=>?_)
   ·
    obtain⟨j,rfl⟩:=Option.isSome_iff_exists.1 hb;obtain⟨hj,hsj⟩:=ho;have hj':j<wlK.length:=hj;clear hb;refine aK ?_;simp (maxSteps:=4000000) only[↓sP,sA,tyS,simprocAttr];repeat refine AI ?_
    refine hK _ _ _ ?_;clear hK K;refine aP ?_;refine aE fun K hK=>aY2 ?_;refine bO5 (l:=wlK) hj' (by kernel_rfl) rfl rfl rfl rfl rfl rfl rfl ?_;iterate 4
     (refine aL3 (g:=none) (by kernel_rfl) rfl rfl fun K' hK'=>?_;simp only[sH,↓sP,sA,tyS,simprocAttr];(repeat refine AI ?_);refine hK' _ _ ?_;clear hK' K')
    refine wE rfl (hK _ _ _ ?_);clear hK K;rw[cB5 hj'];obtain⟨kw,hkw⟩: ∃kw,kw=wlK.getD j (0,[]):=⟨_,rfl⟩;rw[←hkw];refine aE fun K hK=>aD (by kernel_rfl) ?_;simp only[sR,simprocAttr];iterate 5
     (refine aC (g:=none) rfl rfl fun K' hK'=>?_;simp only[sH,↓sP,sA,tyS,simprocAttr,List.length_map,cF h0,Int.toNat_zero];(repeat refine AI ?_);refine hK' _ _ ?_;clear hK' K')
    simp only[sE,↓reduceIte,simprocAttr];repeat refine AI ?_
    refine hK _ _ _ ?_;clear hK K;refine aG (b:=(kw.2==wd w 0)) rfl (fun hb=>?_) (fun hb=>?_)
    ·
     have hkd:lC (wd w 0)=some kw.1:=by rw[hkw];exact bI5 hj (by rw[←hkw];exact eq_of_beq hb)
     clear hb;have htf:List.take f.length (f.map (CV.int .i64))=f.map (CV.int .i64):=List.take_of_length_le (by simp);have hok: ∀{ob:Ob} {r:HV} (N:Nat) (b:Bool),b=decide (¬(kw.1=1∧f≠[]))→r= .tup [.agg [.c (.int .i64 kw.1),.c (.int .i64 n),.own N 0,.c (.slc (f.map (CV.int .i64)))],.c (.bool b)]→ob N=some (.row 44 32 [])→iH 0 r ob (fun r ob'=> ∃os',ob'=lst os'∧(0≤os'.length∧os'.length≤0+4)∧bA1 w r os'):=fun N b hb hr h0=>by
      refine bA2 (f:=f) N hr h0 (by simp[CV.denil,denilL_int]) ?_ ?_
      ·
       rw[hlr,hkd,hb];by_cases hc:kw.1=1∧f≠[]
       · rw[decide_eq_false (by simpa using hc)];simp[hc]
       rw[decide_eq_true hc];simp[hc]
      intro x hx;rw[hlr,hkd]at hx;simp only[Option.bind_some]at hx;split at hx
      · cases hx
      cases hx;rfl
     by_cases hk1:kw.1=1
     ·
      have hkf:(kw.1 !=1)=false:=by rw[hk1];rfl
      refine aE fun K hK=>dJ mixed [(0,[],[]),(1,[],[]),(2,[],[]),(3,[],[]),(4,[],[]),(5,[],[]),(6,[],[]),(7,[],[]),(8,[],[]),(9,[],[]),(10,[],[]),(11,[],[]),(12,[],[]),(13,[],[]),(14,[],[10,11,12,13]),(15,[],[])] [0,0,2,6,0,16,63,0,128,384,896,1920,3968,8064,1023,32767] (by kernel_rfl) (by kernel_rfl) (by kernel_rfl) (by kernel_rfl) rfl (by kernel_rfl) ?_;iterate 10
       (refine bG (g:=none) rfl rfl fun K' hK'=>?_;simp only[sH,↓sP,sA,tyS,simprocAttr,bI6,Int.toNat_zero,Int.toNat_one,List.length_cons,List.length_map,List.drop_succ_cons,List.drop_zero,Nat.add_sub_cancel,htf,hkf];(repeat refine AI ?_);refine hK' _ _ ?_;clear hK' K')
      iterate 3
       (refine bG (g:=some (43,false)) rfl rfl fun K' hK'=>?_;simp only[sH,↓sP,sA,tyS,simprocAttr,bI6,Int.toNat_zero,Int.toNat_one,List.length_cons,List.length_map,List.drop_succ_cons,List.drop_zero,Nat.add_sub_cancel,htf,hkf];(repeat refine AI ?_);refine hK' _ _ ?_;clear hK' K')
      iterate 3
       (refine bG (g:=none) rfl rfl fun K' hK'=>?_;simp only[sH,↓sP,sA,tyS,simprocAttr,bI6,Int.toNat_zero,Int.toNat_one,List.length_cons,List.length_map,List.drop_succ_cons,List.drop_zero,Nat.add_sub_cancel,htf,hkf];(repeat refine AI ?_);refine hK' _ _ ?_;clear hK' K')
      simp only[sE,↓reduceIte,simprocAttr];repeat refine AI ?_
      refine hK _ _ _ ?_;clear hK K;refine dX 0 2 44 32 rfl rfl rfl rfl ?_;refine aJ ?_;simp (maxSteps:=4000000) only[aT,Tryz.results96,aR,aS,aQ,↓sP,sA,tyS,simprocAttr];refine⟨rfl,?_⟩;first|(refine hno 412 (by rw[hlr,hkn];rfl) ?_ ?_<;>rfl)|(refine hno 80 (by unfold eY;rw[hns]) ?_ ?_<;>rfl)|(refine hok 504 ?_ ?_ ?_ ?_;rotate_left 2;rfl;rfl;(cases f<;>simp[hk1]<;>omega))
     have hkf:(kw.1 !=1)=true:=bne_iff_ne.2 hk1;refine aE fun K hK=>dJ mixed [(0,[],[]),(1,[],[]),(2,[],[]),(3,[],[]),(4,[],[]),(5,[],[]),(6,[],[]),(7,[],[]),(8,[],[]),(9,[],[]),(10,[],[]),(11,[],[]),(12,[],[]),(13,[],[]),(14,[],[10,11,12,13]),(15,[],[])] [0,0,2,6,0,16,63,0,128,384,896,1920,3968,8064,1023,32767] (by kernel_rfl) (by kernel_rfl) (by kernel_rfl) (by kernel_rfl) rfl (by kernel_rfl) ?_;iterate 10
      (refine bG (g:=none) rfl rfl fun K' hK'=>?_;simp only[sH,↓sP,sA,tyS,simprocAttr,bI6,Int.toNat_zero,Int.toNat_one,List.length_cons,List.length_map,List.drop_succ_cons,List.drop_zero,Nat.add_sub_cancel,htf,hkf];(repeat refine AI ?_);refine hK' _ _ ?_;clear hK' K')
     iterate 3
      (refine bG (g:=some (43,false)) rfl rfl fun K' hK'=>?_;simp only[sH,↓sP,sA,tyS,simprocAttr,bI6,Int.toNat_zero,Int.toNat_one,List.length_cons,List.length_map,List.drop_succ_cons,List.drop_zero,Nat.add_sub_cancel,htf,hkf];(repeat refine AI ?_);refine hK' _ _ ?_;clear hK' K')
     iterate 3
      (refine bG (g:=none) rfl rfl fun K' hK'=>?_;simp only[sH,↓sP,sA,tyS,simprocAttr,bI6,Int.toNat_zero,Int.toNat_one,List.length_cons,List.length_map,List.drop_succ_cons,List.drop_zero,Nat.add_sub_cancel,htf,hkf];(repeat refine AI ?_);refine hK' _ _ ?_;clear hK' K')
     simp only[sE,↓reduceIte,simprocAttr];repeat refine AI ?_
     refine hK _ _ _ ?_;clear hK K;refine dX 0 2 44 32 rfl rfl rfl rfl ?_;refine aJ ?_;simp (maxSteps:=4000000) only[aT,Tryz.results96,aR,aS,aQ,↓sP,sA,tyS,simprocAttr];refine⟨rfl,?_⟩;first|(refine hno 412 (by rw[hlr,hkn];rfl) ?_ ?_<;>rfl)|(refine hno 80 (by unfold eY;rw[hns]) ?_ ?_<;>rfl)|(refine hok 504 ?_ ?_ ?_ ?_;rotate_left 2;rfl;rfl;(cases f<;>simp[hk1]<;>omega))
    have hne:kw.2≠wd w 0:=by intro e;rw[e]at hb;simp at hb
    clear hb;refine aK ?_;simp (maxSteps:=4000000) only[↓sP,sA,tyS,simprocAttr];refine⟨⟨s.push j,fun i hi hc=>?_⟩,(aI (by omega) (by simp[aY,fin_at,finA_at,upd_at,HV.men,HV.menL,HV.norm,HV.toC,HV.toCL,xA,nY]) (by simp[bB,fob_at,upd_at,none0_at,bN,HO.men,HV.men,HV.menL,HV.norm,HV.toC,HV.toCL,xA,nY])),aN7 hj hsj⟩;by_cases e:i=j
    · subst e;rw[←hkw];exact hne
    refine hs i hi ?_;simp[Array.mem_push,e]at hc;simpa using hc
   have ho':o=none:=by cases o with|none=>rfl|some j=>cases hb
   subst ho';have hkn:lC (wd w 0)=none:=bI4 fun j hj=>hs j hj (ho j hj);refine bK ?_;simp (maxSteps:=4000000) only[↓sP,sA,tyS,simprocAttr];clear hK K;repeat refine AI ?_
   refine hK _ _ _ ?_;clear hK K;refine aE fun K hK=>aD (by kernel_rfl) ?_;simp (maxSteps:=4000000) only[↓sP,sA,tyS,simprocAttr];repeat refine AI ?_
   refine hK _ _ _ ?_;clear hK K;refine dX 0 2 44 32 rfl rfl rfl rfl ?_;refine aJ ?_;simp (maxSteps:=4000000) only[aT,Tryz.results96,aR,aS,aQ,↓sP,sA,tyS,simprocAttr];refine⟨rfl,?_⟩;first|(refine hno 412 (by rw[hlr,hkn];rfl) ?_ ?_<;>rfl)|(refine hno 80 (by unfold eY;rw[hns]) ?_ ?_<;>rfl)|(refine hok 504 ?_ ?_ ?_ ?_;rotate_left 2;rfl;rfl;(cases f<;>simp[hk1]<;>omega))
  refine aY2 ?_;refine bY8 (l:=wlK) (by kernel_rfl) rfl rfl rfl rfl rfl rfl rfl (fun hdone=>?_) (fun j hj hsj=>?_)
  ·
   refine aL3 (g:=none) (by kernel_rfl) rfl rfl fun K' hK'=>?_;simp only[sH,↓sP,sA,tyS,simprocAttr];repeat refine AI ?_
   refine hK' _ _ ?_;refine wE rfl (key none _ _ _ (fun j hj=>hdone j hj) (aI (by omega) (by simp[aY,fin_at,finA_at,upd_at,HV.men,HV.menL,HV.norm,HV.toC,HV.toCL,xA,nY]) (by simp[bB,fob_at,upd_at,none0_at,bN,HO.men,HV.men,HV.menL,HV.norm,HV.toC,HV.toCL,xA,nY])))
  ·
   refine aL3 (g:=none) (by kernel_rfl) rfl rfl fun K' hK'=>?_;simp only[sH,↓sP,sA,tyS,simprocAttr];repeat refine AI ?_
   refine hK' _ _ ?_;refine wE rfl (key (some j) _ _ _ ⟨hj,hsj⟩ (aI (by omega) (by simp[aY,fin_at,finA_at,upd_at,HV.men,HV.menL,HV.norm,HV.toC,HV.toCL,xA,nY]) (by simp[bB,fob_at,upd_at,none0_at,bN,HO.men,HV.men,HV.menL,HV.norm,HV.toC,HV.toCL,xA,nY])))
 have hs':(eQ (w.drop 1)).isSome=false:=by simpa using hs
 have hns:eQ (w.drop 1)=none:=by simpa using hs'
 refine aE fun K hK=>aD (by kernel_rfl) ?_;simp only[sR,simprocAttr];iterate 3
  (refine aC (g:=none) rfl rfl fun K' hK'=>?_;simp only[sH,↓sP,sA,tyS,simprocAttr,hs'];(repeat refine AI ?_);refine hK' _ _ ?_;clear hK' K')
 iterate 3
  (refine aC (g:=some (16,false)) rfl rfl fun K' hK'=>?_;simp only[sH,↓sP,sA,tyS,simprocAttr,hs'];(repeat refine AI ?_);refine hK' _ _ ?_;clear hK' K')
 refine aC (g:=none) rfl rfl fun K' hK'=>?_;simp (maxSteps:=4000000) only[sH,↓sP,sA,tyS,simprocAttr,hs'];repeat refine AI ?_
 refine hK' _ _ ?_;clear hK' K';simp only[sE,↓reduceIte,simprocAttr];repeat refine AI ?_
 refine hK _ _ _ ?_;clear hK K;refine aG (b:=true) rfl (fun hb=>?_) (fun hb=>?_)
 ·
  refine aE fun K hK=>aD (by kernel_rfl) ?_;simp (maxSteps:=4000000) only[↓sP,sA,tyS,simprocAttr];repeat refine AI ?_
  refine hK _ _ _ ?_;clear hK K;refine dX 0 2 44 32 rfl rfl rfl rfl ?_;refine aJ ?_;simp (maxSteps:=4000000) only[aT,Tryz.results96,aR,aS,aQ,↓sP,sA,tyS,simprocAttr];refine⟨rfl,?_⟩;first|(refine hno 412 (by rw[hlr,hkn];rfl) ?_ ?_<;>rfl)|(refine hno 80 (by unfold eY;rw[hns]) ?_ ?_<;>rfl)|(refine hok 504 ?_ ?_ ?_ ?_;rotate_left 2;rfl;rfl;(cases f<;>simp[hk1]<;>omega))
 cases hb
end Go.Proofs.YthedbjfipmkpiaaGreatDoor
namespace Go.Hl
open Go
def mvN (id d:Nat):Nat→Nat:=fun i=>if i=id then d else i
def mvF (id d:Nat)(fr:Fr):Fr:=fun t=>(fr t).ren (mvN id d)
def mvO (id d:Nat)(ob:Ob):Ob:=fun i=>if i=d then(ob id).map (HO.ren (mvN id d))else if i=id then none else(ob i).map (HO.ren (mvN id d))
section
variable {P:Program}{n k:Nat}{Q:eV}{fr:Fr}{ob:Ob}{nx:Nat}
theorem RepA.mv {c:Ctx}{a:Act}{w:World}{M:Nat→Prop}(hA:RepA c M fr ob a w)(hk':c.M0=(· <k))(id d nx2:Nat)(hk:k≤id)(hkd:k≤d)(hid:M id)(hM: ∀i,M i→i<nx2∧i≠d)(hd:d<nx2):RepA c (· <nx2) (mvF id d fr) (mvO id d ob) a w:=by
 obtain⟨ρ,hA⟩:=hA;have hne:id≠d:=(hM id hid).2
 let ρ2:Env:=fun i=>if i=d then ρ id else if i=id then none else ρ i
 have hm: ∀i,M i→ρ2 (mvN id d i)=ρ i:=fun i hi=>by
  have:=hM i hi;simp only[ρ2,mvN];grind
 have hinv: ∀i L,ρ2 i=some L→ ∃j,M j∧mvN id d j=i∧ρ j=some L:=fun i L hL=>by
  simp only[ρ2]at hL;split at hL
  · grind[mvN]
  ·
   split at hL
   · grind
   ·
    rename_i e1 e2;refine⟨i,?_,by simp[mvN,e2],hL⟩;by_cases h1:M i
    · exact h1
    · have:=(hA.nid_none (nid:=i) h1).2;grind
 have hown: ∀b,Own ρ2 b→Own ρ b:=fun b ⟨i,L,h1,h2⟩=>let⟨j,_,_,h3⟩:=hinv i L h1;⟨j,L,h3,h2⟩;have hst:Stay w (Owned ρ c.X) w (Owned ρ2 c.X):=Stay.same (fun b _ hb=>hb.imp _root_.id (hown b));have hmv:Moves M ρ (fun i=>ρ2 (mvN id d i)):=Moves.of_eq fun i hi=>hm i hi;have hobj: ∀i o,mvO id d ob i=some o→ ∃j o',M j∧mvN id d j=i∧ob j=some o'∧o=o'.ren (mvN id d):=fun i o ho=>by
  simp only[mvO]at ho;split at ho
  · grind[Option.map_eq_some_iff,mvN]
  ·
   split at ho
   · grind
   · rename_i e1 e2;obtain⟨o',h1,h2⟩:=Option.map_eq_some_iff.1 ho;exact⟨i,o',(hA.mo i o' h1).1,by simp[mvN,e2],h1,h2.symm⟩
 have hmen: ∀i,M i→mvN id d i<nx2:=fun i hi=>by
  have:=hM i hi;grind[mvN]
 refine⟨ρ2,⟨fun i o ho=>?_,fun i hi=>?_,fun i i' L L' b h1 h2 h3 h4=>?_,fun i L b h1 h2=>?_⟩,fun t ht=>?_,fun t=>?_,fun i o ho=>?_,fun i hi=>?_,?_,?_,hA.defers,hA.size,hA.xlt⟩
 · obtain⟨j,o',hj,rfl,h1,rfl⟩:=hobj i o ho;exact RepO.unsub hst hmv (hA.mo j o' h1).2 (hm j hj) (hA.s.objs j o' h1)
 ·
  simp only[mvO]at hi;simp only[ρ2];split at hi
  · rename_i e;rw[if_pos e];exact hA.s.none id (by simp_all)
  ·
   rename_i e;rw[if_neg e];split at hi
   · grind
   · rename_i e2;rw[if_neg e2];exact hA.s.none i (by simp_all)
 · obtain⟨j,_,rfl,e1⟩:=hinv i L h1;obtain⟨j',_,rfl,e2⟩:=hinv i' L' h2;rw[hA.s.apart j j' L L' b e1 e2 h3 h4]
 · obtain⟨j,_,rfl,e1⟩:=hinv i L h1;exact hA.s.xb j L b e1 h2
 ·
  have hj:fr t≠ .junk:=by intro e;apply ht;simp only[mvF,e,HV.ren]
  have hf:=hA.f t hj;exact⟨jG.2 (RepH.stay hst hmv (hA.mf t) hf.1),by simp only[mvF,HV.ren_isAgg];exact hf.2⟩
 · exact men_ren.2 (HV.men_mono hmen (hA.mf t))
 · obtain⟨j,o',hj,rfl,h1,rfl⟩:=hobj i o ho;exact⟨hmen j hj,HO.men_ren.2 (HO.men_mono hmen (hA.mo j o' h1).2)⟩
 · exact(hM i (hA.m0 i hi)).1
 · exact hA.base.trans ⟨fun _ _ _=>rfl,fun b hb=> .inl (hown b hb),Nat.le_refl _,rfl,rfl,rfl⟩
 ·
  refine Moves.trans (M':=c.M0) (fun i hi=>hi) hA.moves fun i L hi hL=>⟨L,?_,.inl rfl⟩;rw[hk']at hi;have h1:i<k:=hi;simp only[ρ2]at hL
  rwa [if_neg (by omega),if_neg (by omega)]at hL
theorem bA3 {M:Nat→Prop}: ∀{l:List (Nat×HV)},(∀p∈l,p.2.men M)→ ∀t,(fin l t).men M
 |[],_,t=>by simp[fin,HV.men]
 |(t',v)::l,h,t=>by
  by_cases ht:t=t'
  · subst ht;simp only[fin,aV];exact h (t,v) (by simp)
  · simp only[fin,bE _ _ ht];exact bA3 (fun p hp=>h p (by simp[hp])) t
theorem bA4 {M N:Nat→Prop}: ∀{l:List (Nat×HO)},(∀p∈l,N p.1∧p.2.men M)→ ∀t o,fob l t=some o→N t∧o.men M
 |[],_,t,o,ho=>by simp[fob]at ho
 |(t',v)::l,h,t,o,ho=>by
  by_cases ht:t=t'
  · subst ht;simp only[fob,aV]at ho;cases ho;exact h (t,v) (by simp)
  · simp only[fob,bE _ _ ht]at ho;exact bA4 (fun p hp=>h p (by simp[hp])) t o ho
theorem cJ2 {code:Code}(id d nx2:Nat)(l:List (Nat×HV))(h:List (Nat×HO))(h1:aY nx fr l)(h2:bB nx ob h)(hk0:k≤nx)(hk:k≤id)(hkd:k≤d)(hid:id<nx)(hne:id≠d)(hnx:nx≤nx2)(hd:d<nx2)
  (hl: ∀p∈l,p.2.men fun i=>i<nx∧i≠d) (hh: ∀p∈h,(p.1<nx∧p.1≠d)∧p.2.men fun i=>i<nx∧i≠d) (hw:Hw P n k code Q (mvF id d (fin l)) (mvO id d (fob h)) nx2):Hw P n k code Q fr ob nx:=by
 intro c a w hn hk' hz hA;refine hw c a w hn hk' hz ?_;obtain⟨ρ,hB⟩:=hA.fits hk' (aI hk0 h1 h2);refine RepA.mv (M:=fun i=>i<nx∧i≠d) ⟨ρ,hB.s,hB.f,bA3 hl,bA4 (N:=fun i=>i<nx∧i≠d) hh,fun i hi=>?_,hB.base,hB.moves,hB.defers,hB.size,hB.xlt⟩ hk' id d nx2 hk hkd ⟨hid,hne⟩ (fun i hi=>⟨by omega,hi.2⟩) hd;rw[hk']at hi;have:i<k:=hi;omega
end
end Go.Hl
namespace Go.Pl
open Go Go.Hl
def gV (ws:List (List aH)):Option (List Ln):=ws.foldlM eD []
theorem pO (ls:List (List aH)):gE ls=(gN ls).bind fun d=>(gV (ls.drop 2)).map fun l=>{d with l:=l}:=rfl
theorem aA9 :gV []=some []:=rfl
theorem nZ (a b:List (List aH)):gV (a++b)=(gV a).bind fun l=>b.foldlM eD l:=by
 unfold gV;rw[List.foldlM_append];rfl
variable {l:List Ln}{i:Nat}{ws:List (List aH)}
theorem jS (h:i<ws.length)(hl:gV (ws.take i)=some l):gV (ws.take (i+1))=eD l ws[i]:=by
 rw[List.take_succ_eq_append_getElem h,nZ,hl];show([ws[i]].foldlM eD l)=_;simp only[List.foldlM_cons,List.foldlM_nil];cases eD l ws[i]<;>rfl
theorem jT (h:i<ws.length)(hl:gV (ws.take i)=some l)(hn:eD l ws[i]=none):gV ws=none:=by
 have e:ws=ws.take (i+1)++ws.drop (i+1):=(List.take_append_drop _ _).symm;rw[e,nZ,jS h hl,hn];rfl
variable {n:Nat}{w:List aH}{ls:List Ln}
theorem bT8 (h:bH6 ls w=some l)(h1:ls.length≤n)(h2: ∀x∈ls,x.d.length≤n):l.length≤n∧ ∀x∈l,x.d.length≤n+1:=by
 unfold bH6 at h;cases hx:ls.getLast? with
 |none=>rw[hx]at h;cases h
 |some x=>
  rw[hx]at h;have hm:=List.mem_of_getLast? hx;have hp:0<ls.length:=List.length_pos_of_mem hm;dsimp only at h;split at h
  ·
   cases hd:fZ (wd w 1)with
   |none=>rw[hd]at h;cases h
   |some d=>
    rw[hd]at h;obtain rfl:=Option.some.inj h;refine⟨by simp;omega,fun y hy=>?_⟩;rcases List.mem_append.1 hy with hy|hy
    · exact Nat.le_succ_of_le (h2 y (List.dropLast_subset _ hy))
    · rw[List.mem_singleton.1 hy];have:=h2 x hm;simp[uK];omega
  · cases h
variable {x:Ln}
theorem cB7 (h:eY w=some x):x.d=[]:=by
 unfold eY at h;split at h
 ·
  rename_i n f _;cases hk:lC (wd w 0)with
  |none=>rw[hk]at h;cases h
  |some k=>
   rw[hk]at h;simp only[Option.bind_some]at h;split at h
   · cases h
   · obtain rfl:=Option.some.inj h;rfl
 · cases h
theorem bI7 (h:eD ls w=some l)(h1:ls.length≤n)(h2: ∀x∈ls,x.d.length≤n):l.length≤n+1∧ ∀x∈l,x.d.length≤n+1:=by
 unfold eD at h;split at h
 · have:=bT8 h h1 h2;exact⟨by omega,this.2⟩
 ·
  cases hx:eY w with
  |none=>rw[hx]at h;cases h
  |some x=>
   rw[hx]at h;obtain rfl:=Option.some.inj h;refine⟨by simp;omega,fun y hy=>?_⟩;rcases List.mem_append.1 hy with hy|hy
   · exact Nat.le_succ_of_le (h2 y hy)
   · rw[List.mem_singleton.1 hy,cB7 hx];simp
theorem tA {ws:List (List aH)}: ∀{i:Nat} {l:List Ln},i≤ws.length→gV (ws.take i)=some l→l.length≤i∧ ∀x∈l,x.d.length≤i
 |0,l,_,h=>by
  rw[List.take_zero,aA9]at h;obtain rfl:=Option.some.inj h;simp
 |i+1,l,hi,h=>by
  cases hp:gV (ws.take i)with
  |none=>
   have e:ws.take (i+1)=ws.take i++[ws[i]]:=List.take_succ_eq_append_getElem (by omega);rw[e,nZ,hp]at h;cases h
  |some m=>
   have hm:=tA (i:=i) (by omega) hp;rw[jS (by omega) hp]at h;exact bI7 h hm.1 hm.2
theorem xB (hw:wd w 0≠oH):eD l w=(eY w).map fun x=>l++[x]:=if_neg hw
theorem aN8 (hw:wd w 0=oH):eD [] w=none:=by unfold eD;rw[if_pos hw];rfl
theorem aB0 (hw:wd w 0=oH):eD (l++[x]) w=if x.k=1∧w.length=2 then(fZ (wd w 1)).map fun d=>l++[uK x d]else none:=by
 unfold eD bH6;rw[if_pos hw];simp
theorem nG (hw:wd w 0=oH)(h:x.k≠1∨w.length≠2∨(fZ (wd w 1)).isSome=false):eD (l++[x]) w=none:=by
 rw[aB0 hw];split
 ·
  rename_i hc;rcases h with h|h|h
  · exact absurd hc.1 h
  · exact absurd hc.2 h
  ·
   cases hd:fZ (wd w 1)with
   |none=>rfl
   |some d=>rw[hd]at h;cases h
 · rfl
theorem aN9 {d:Dig}(hw:wd w 0=oH)(h1:x.k=1)(h2:w.length=2)(hd:fZ (wd w 1)=some d):eD (l++[x]) w=some (l++[uK x d]):=by
 rw[aB0 hw,if_pos ⟨h1,h2⟩,hd];rfl
end Go.Pl
