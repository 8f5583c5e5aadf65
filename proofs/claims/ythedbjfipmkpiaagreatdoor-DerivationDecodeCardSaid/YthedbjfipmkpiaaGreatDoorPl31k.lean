/- Plain Lean: how large a derivation is that the reference has read (31.5). By an AI agent. -/
import Derived.Test.YthedbjfipmkpiaaGreatDoorPl02g
import Derived.Test.YthedbjfipmkpiaaGreatDoorHdY9
import Derived.Test.YthedbjfipmkpiaaGreatDoorHdSb
import Derived.Test.YthedbjfipmkpiaaGreatDoorHlFl
import Derived.Test.YthedbjfipmkpiaaGreatDoorHdU2
import Derived.Test.YthedbjfipmkpiaaGreatDoorHdX6
import Derived.Test.YthedbjfipmkpiaaGreatDoorHdFm
import Derived.Test.YthedbjfipmkpiaaGreatDoorHdX3
set_option linter.unusedSimpArgs false
set_option linter.unusedVariables false
set_option linter.defProp false
namespace Go.Proofs.YthedbjfipmkpiaaGreatDoor
open Go Go.Hl Go.Pl
set_option maxRecDepth 10000
set_option maxHeartbeats 16000000
variable {w:List aG}{l:List Ln}
theorem cM2 {x:Ln}(hw:wd w 0=jW):lX (l++[x]) w=if x.k=1∧w.length=2 then(eK (wd w 1)).map fun d=>l++[jX x d]else none:=by
 rw[←vH hw];unfold dK;rw[if_pos hw]
abbrev rlH (l:List Ln)(x:Ln)(N:Nat):HO:= .hrow 41 4 ((l.map fun z=>HV.c z.cv)++[rdE x N])
def RdP (d:Dv)(l:List Ln)(x:Ln)(w:List aG)(r:HV)(os':List HO):Prop:=
 ∃x':Ln,r= .tup [rdV d 0 (l.length+1),.c (.bool (lX (l++[x]) w).isSome)]∧os'=[rlH l x' 1,.row 44 32 (x'.d.map dg)]∧ ∀M,lX (l++[x]) w=some M→M=l++[x']
theorem cW7 (l:List Ln)(x:Ln):lst [rlH l x 1,.row 44 32 (x.d.map dg)]=fob [(0,rlH l x 1),(1,.row 44 32 (x.d.map dg))]:=by
 funext i
 match i with
 |0=>rfl
 |1=>rfl
 |i+2=>simp[lst,fob,cZ,upd]
theorem mQ {ob:Ob}{r:HV}{d:Dv}{x x':Ln}{b:Bool}(hr:r= .tup [rdV d 0 (l.length+1),.c (.bool b)])(h0:ob 0=some (rlH l x' 1))(h1:ob 1=some (.row 44 32 (x'.d.map dg)))(hb:(lX (l++[x]) w).isSome=b)(hx: ∀M,lX (l++[x]) w=some M→M=l++[x']):
  iJ 2 r ob (fun r ob'=> ∃os',ob'=lst os'∧(2≤os'.length∧os'.length≤2+4)∧RdP d l x w r os'):=by
 subst hr;refine iD [] [] (.tup [rdV d 0 (l.length+1),.c (.bool b)]) [rlH l x' 1,.row 44 32 (x'.d.map dg)] ?_ (by simp[rdV,HV.men,HV.menL]) ⟨⟨by simp[HO.men,bD,HV.menL_append,HV.menL,HV.men,rdE],by simp,_,(by simpa[tau]using h0),?_⟩,⟨by simp[HO.men],by simp,_,(by simpa[tau]using h1),rfl⟩,trivial⟩ rfl (by simp) (by simp) (by simp) ⟨x',by rw[hb],rfl,hx⟩
 · simp[rdV,HV.close,HV.closeL,CV.denil,HV.norm,HV.toC,HV.toCL,HV.ren,HV.renL,tau,Qs.denil,Og.denil,dg_denil]
 simp[rlH,HO.close,HO.ren,iR,fY,sI,kS,gG,rdE,HV.close,HV.closeL,HV.ren,HV.renL,HV.norm,HV.toC,HV.toCL,CV.denil,denilL_int,tau]
theorem cE6 (w:List aG)(hwl:w.length≤120)(h0:0<w.length)(hdc:wd w 0=jW)(d:Dv)(l:List Ln)(x:Ln)(hl:l.length<2^38)(hxd:x.d.length<2^38):HGe Tryz.prog 69 [rdV d 0 (l.length+1),.c (.slc (w.map .str))] [rlH l x 1,.row 44 32 (x.d.map dg)] (RdP d l x w):=by
 refine cI (args:=[rdV d 0 (l.length+1),.c (.slc (w.map .str))]) Tryz.func69 rfl (by kernel_rfl) (fP rfl (by simp[eH,HO.men,bD,HV.menL_append,HV.menL,HV.men,rdE,rlH]) (by simp[rdV,HV.menL,HV.men])) (Nat.le_of_ble_eq_true rfl) ?_;show Hw _ _ 2 _ _ _ (lst _) 2;rw[cW7];have hdf:(wd w 0==[100,111,99])=true:=by rw[hdc];decide
 have hq:=cM2 (l:=l) (x:=x) hdc;have hno: ∀{ob:Ob} {r:HV},lX (l++[x]) w=none→r= .tup [rdV d 0 (l.length+1),.c (.bool false)]→ob 0=some (rlH l x 1)→ob 1=some (.row 44 32 (x.d.map dg))→iJ 2 r ob (fun r ob'=> ∃os',ob'=lst os'∧(2≤os'.length∧os'.length≤2+4)∧RdP d l x w r os'):=fun hn hr h0 h1=>mQ hr h0 h1 (by rw[hn];rfl) (fun M hM=>by rw[hn]at hM;cases hM);refine R0 ?_ (e:=fun _ h_=>by simp only[↓sP,sA,tyS,simprocAttr,rdV];exact AX h_);refine aB fun K hK=>?_;have F:=@List.length_map.{0,0};refine RF ?_;refine aH (b:=decide ((w.length:Int)<2)) rfl (fun hb=>?_) (fun hb=>?_)
 ·
  have hsh:lX (l++[x]) w=none:=by rw[hq,if_neg];have:=of_decide_eq_true hb;omega
  clear hb;refine R0 ?_ (e:=fun _ h_=>by simp only[↓sP,sA,tyS,simprocAttr,rdV];exact AX h_);refine aF (RT Tryz.results69 ?_);refine⟨rfl,?_⟩;first
  |exact hno hsh rfl rfl rfl
  |(refine mQ (x':=jX x dd) (b:=true) rfl ?_ ?_ (by rw[hok];rfl) (fun M hM=>by rw[hok]at hM;exact(Option.some.inj hM).symm)<;>simp[upd_at,rlH,rdE,jX])
 have h2:2≤w.length:=by have:=of_decide_eq_false hb;omega
 clear hb;refine aK ?_;refine T0 (hK _ _ _ ?_);clear hK K;refine aB fun K hK=>?_;refine aB fun K hK=>Rg ?_;iterate 4 refine S0 ?_ (e:=fun _ h_=>by simp only[sH,↓sP,sA,tyS,simprocAttr,List.length_map,cV h0,Int.toNat_zero,hdf];exact AX h_)
 refine T2 (hK _ _ _ ?_);clear hK K;refine CT rfl ?_;refine aB fun K hK=>Rg ?_;iterate 3 refine S0 ?_ (e:=fun _ h_=>by simp only[sH,↓sP,sA,tyS,simprocAttr,List.length_map,cV (show 1<w.length by omega),Int.toNat_one];exact AX h_)
 refine HS rfl rfl fun K' hK'=>?_;simp only[sH,↓sP,sA,tyS,simprocAttr,List.length_map,cV (show 1<w.length by omega),Int.toNat_one];refine D1 (kV (wd w 1)) ?_;rintro u v ⟨rfl,rfl⟩;refine AX (hK' _ _ ?_);clear hK' K';iterate 6 refine S0 ?_ (e:=fun _ h_=>by simp only[sH,↓sP,sA,tyS,simprocAttr,List.length_map,cV (show 1<w.length by omega),Int.toNat_one];exact AX h_)
 refine T2 (hK _ _ _ ?_);clear hK K;refine aB fun K hK=>bY (by kernel_rfl) ?_;simp only[sR,simprocAttr];iterate 2 refine SG0 ?_ (e:=fun _ h_=>by simp only[sH,↓sP,sA,tyS,simprocAttr,rdV,List.length_append,List.length_map,List.length_cons,List.length_nil,Nat.zero_add,(show IntKind.i64.wrap (((l.length+1:Nat):Int)-1)=(l.length:Int)from by rw[IntWalk.i64_in _ (by omega)];omega)];exact AX h_)
 refine cA (g:=none) rfl rfl fun K' hK'=>?_;simp only[sN,↓hopH.eq_def,sH,↓sP,sA,tyS,simprocAttr,rdV,List.length_append,List.length_map,List.length_cons,List.length_nil,Nat.zero_add,(show IntKind.i64.wrap (((l.length+1:Nat):Int)-1)=(l.length:Int)from by rw[IntWalk.i64_in _ (by omega)];omega)];refine AX (hK' _ _ ?_);clear hK' K';iterate 2 refine SG0 ?_ (e:=fun _ h_=>by simp only[sH,↓sP,sA,tyS,simprocAttr,rdV,List.length_append,List.length_map,List.length_cons,List.length_nil,Nat.zero_add,(show IntKind.i64.wrap (((l.length+1:Nat):Int)-1)=(l.length:Int)from by rw[IntWalk.i64_in _ (by omega)];omega)];exact AX h_)
 refine T2 (hK _ _ _ ?_);clear hK K;refine aB fun K hK=>?_;by_cases hp1:(eK (wd w 1)).isSome=true
 ·
  by_cases hp2:w.length=2
  ·
   by_cases hp3:x.k=1
   ·
    have hf2:((w.length:Int) !=2)=false:=by rw[hp2];rfl
    have hf3:(x.k !=1)=false:=by rw[hp3];rfl
    refine aB fun K hK=>bY (by kernel_rfl) ?_;simp only[sR,simprocAttr];iterate 15 refine SG0 ?_ (e:=fun _ h_=>by simp only[sH,↓sP,sA,tyS,simprocAttr,rdV,rdE,rlH,hp1,Bool.not_true,hf2,hf3,(show decide ((l.length:Int)<0)=false from decide_eq_false (by omega)),bV,List.length_append,List.length_map,List.length_cons,List.length_nil,Nat.zero_add,Int.natCast_nonneg,Int.ofNat_lt,Nat.lt_succ_self,Int.toNat_natCast];exact AX h_)
    refine cA (g:=some (46,false)) rfl rfl fun K' hK'=>?_;simp only[sN,↓hopH.eq_def,sH,↓sP,sA,tyS,simprocAttr,rdV,rdE,rlH,hp1,Bool.not_true,hf2,hf3,(show decide ((l.length:Int)<0)=false from decide_eq_false (by omega)),bV,List.length_append,List.length_map,List.length_cons,List.length_nil,Nat.zero_add,Int.natCast_nonneg,Int.ofNat_lt,Nat.lt_succ_self,Int.toNat_natCast];refine AX (hK' _ _ ?_);clear hK' K';refine cA (g:=some (46,false)) rfl rfl fun K' hK'=>?_;simp only[sN,↓hopH.eq_def,sH,↓sP,sA,tyS,simprocAttr,rdV,rdE,rlH,hp1,Bool.not_true,hf2,hf3,(show decide ((l.length:Int)<0)=false from decide_eq_false (by omega)),bV,List.length_append,List.length_map,List.length_cons,List.length_nil,Nat.zero_add,Int.natCast_nonneg,Int.ofNat_lt,Nat.lt_succ_self,Int.toNat_natCast];refine AX (hK' _ _ ?_);clear hK' K';refine cA (g:=some (46,false)) rfl rfl fun K' hK'=>?_;simp only[sN,↓hopH.eq_def,sH,↓sP,sA,tyS,simprocAttr,rdV,rdE,rlH,hp1,Bool.not_true,hf2,hf3,(show decide ((l.length:Int)<0)=false from decide_eq_false (by omega)),bV,List.length_append,List.length_map,List.length_cons,List.length_nil,Nat.zero_add,Int.natCast_nonneg,Int.ofNat_lt,Nat.lt_succ_self,Int.toNat_natCast];refine AX (hK' _ _ ?_);clear hK' K';iterate 2 refine SG0 ?_ (e:=fun _ h_=>by simp only[sH,↓sP,sA,tyS,simprocAttr,rdV,rdE,rlH,hp1,Bool.not_true,hf2,hf3,(show decide ((l.length:Int)<0)=false from decide_eq_false (by omega)),bV,List.length_append,List.length_map,List.length_cons,List.length_nil,Nat.zero_add,Int.natCast_nonneg,Int.ofNat_lt,Nat.lt_succ_self,Int.toNat_natCast];exact AX h_)
    refine T2 (hK _ _ _ ?_);clear hK K;refine CF rfl ?_;obtain⟨dd,hdd⟩:=Option.isSome_iff_exists.1 hp1;have hok:lX (l++[x]) w=some (l++[jX x dd]):=by rw[hq,if_pos ⟨hp3,hp2⟩,hdd];rfl
    rw[hdd];refine aK ?_;refine T0 (hK _ _ _ ?_);clear hK K;refine aB fun K hK=>dM mixed [(0,[],[]),(1,[],[]),(2,[],[]),(3,[],[]),(4,[],[]),(5,[],[]),(6,[],[]),(7,[],[]),(8,[],[]),(9,[],[]),(10,[],[]),(11,[],[0,1,2]),(12,[],[]),(13,[],[]),(14,[],[])] [0,1,0,0,8,0,56,120,248,0,512,2040,4095,8191,16383] (by kernel_rfl) (by kernel_rfl) (by kernel_rfl) (by kernel_rfl) rfl (by kernel_rfl) ?_;iterate 6 refine WG0 ?_ (e:=fun _ h_=>by simp only[sH,↓sP,sA,tyS,simprocAttr,rdV,rdE,bV,gS,List.length_append,List.length_map,List.length_cons,List.length_nil,Nat.zero_add,Int.natCast_nonneg,Int.ofNat_lt,Nat.lt_succ_self,Int.toNat_natCast,Option.getD_some];exact AX h_)
    refine bO (g:=none) rfl rfl fun K' hK'=>?_;simp only[sN,↓hopH.eq_def,sH,↓sP,sA,tyS,simprocAttr,rdV,rdE,bV,gS,List.length_append,List.length_map,List.length_cons,List.length_nil,Nat.zero_add,Int.natCast_nonneg,Int.ofNat_lt,Nat.lt_succ_self,Int.toNat_natCast,Option.getD_some];refine AX (hK' _ _ ?_);clear hK' K';refine bO (g:=none) rfl rfl fun K' hK'=>?_;simp only[sN,↓hopH.eq_def,sH,↓sP,sA,tyS,simprocAttr,rdV,rdE,bV,gS,List.length_append,List.length_map,List.length_cons,List.length_nil,Nat.zero_add,Int.natCast_nonneg,Int.ofNat_lt,Nat.lt_succ_self,Int.toNat_natCast,Option.getD_some];refine AX (hK' _ _ ?_);clear hK' K';refine bO (g:=none) rfl rfl fun K' hK'=>?_;simp only[sN,↓hopH.eq_def,sH,↓sP,sA,tyS,simprocAttr,rdV,rdE,bV,gS,List.length_append,List.length_map,List.length_cons,List.length_nil,Nat.zero_add,Int.natCast_nonneg,Int.ofNat_lt,Nat.lt_succ_self,Int.toNat_natCast,Option.getD_some];refine AX (hK' _ _ ?_);clear hK' K';iterate 3 refine WG0 ?_ (e:=fun _ h_=>by simp only[sH,↓sP,sA,tyS,simprocAttr,rdV,rdE,bV,gS,List.length_append,List.length_map,List.length_cons,List.length_nil,Nat.zero_add,Int.natCast_nonneg,Int.ofNat_lt,Nat.lt_succ_self,Int.toNat_natCast,Option.getD_some];exact AX h_)
    refine bO (g:=none) rfl rfl fun K' hK'=>?_;simp only[sN,↓hopH.eq_def,sH,↓sP,sA,tyS,simprocAttr,rdV,rdE,bV,gS,List.length_append,List.length_map,List.length_cons,List.length_nil,Nat.zero_add,Int.natCast_nonneg,Int.ofNat_lt,Nat.lt_succ_self,Int.toNat_natCast,Option.getD_some];refine AX (hK' _ _ ?_);clear hK' K';refine bO (g:=none) rfl rfl fun K' hK'=>?_;simp only[sN,↓hopH.eq_def,sH,↓sP,sA,tyS,simprocAttr,rdV,rdE,bV,gS,List.length_append,List.length_map,List.length_cons,List.length_nil,Nat.zero_add,Int.natCast_nonneg,Int.ofNat_lt,Nat.lt_succ_self,Int.toNat_natCast,Option.getD_some];refine AX (hK' _ _ ?_);clear hK' K';refine bO (g:=none) rfl rfl fun K' hK'=>?_;simp only[sN,↓hopH.eq_def,sH,↓sP,sA,tyS,simprocAttr,rdV,rdE,bV,gS,List.length_append,List.length_map,List.length_cons,List.length_nil,Nat.zero_add,Int.natCast_nonneg,Int.ofNat_lt,Nat.lt_succ_self,Int.toNat_natCast,Option.getD_some];refine AX (hK' _ _ ?_);clear hK' K';refine T2 (hK _ _ _ ?_);clear hK K;refine R0 ?_ (e:=fun _ h_=>by simp only[↓sP,sA,tyS,simprocAttr,rdV];exact AX h_);refine aF (RT Tryz.results69 ?_);refine⟨rfl,?_⟩;first
    |exact hno hsh rfl rfl rfl
    |(refine mQ (x':=jX x dd) (b:=true) rfl ?_ ?_ (by rw[hok];rfl) (fun M hM=>by rw[hok]at hM;exact(Option.some.inj hM).symm)<;>simp[upd_at,rlH,rdE,jX])
   have hf2:((w.length:Int) !=2)=false:=by rw[hp2];rfl
   have hf3:(x.k !=1)=true:=bne_iff_ne.2 hp3;have hsh:lX (l++[x]) w=none:=by rw[hq,if_neg (fun h=>hp3 h.1)]
   refine aB fun K hK=>bY (by kernel_rfl) ?_;simp only[sR,simprocAttr];iterate 15 refine SG0 ?_ (e:=fun _ h_=>by simp only[sH,↓sP,sA,tyS,simprocAttr,rdV,rdE,rlH,hp1,Bool.not_true,hf2,hf3,(show decide ((l.length:Int)<0)=false from decide_eq_false (by omega)),bV,List.length_append,List.length_map,List.length_cons,List.length_nil,Nat.zero_add,Int.natCast_nonneg,Int.ofNat_lt,Nat.lt_succ_self,Int.toNat_natCast];exact AX h_)
   refine cA (g:=some (46,false)) rfl rfl fun K' hK'=>?_;simp only[sN,↓hopH.eq_def,sH,↓sP,sA,tyS,simprocAttr,rdV,rdE,rlH,hp1,Bool.not_true,hf2,hf3,(show decide ((l.length:Int)<0)=false from decide_eq_false (by omega)),bV,List.length_append,List.length_map,List.length_cons,List.length_nil,Nat.zero_add,Int.natCast_nonneg,Int.ofNat_lt,Nat.lt_succ_self,Int.toNat_natCast];refine AX (hK' _ _ ?_);clear hK' K';refine cA (g:=some (46,false)) rfl rfl fun K' hK'=>?_;simp only[sN,↓hopH.eq_def,sH,↓sP,sA,tyS,simprocAttr,rdV,rdE,rlH,hp1,Bool.not_true,hf2,hf3,(show decide ((l.length:Int)<0)=false from decide_eq_false (by omega)),bV,List.length_append,List.length_map,List.length_cons,List.length_nil,Nat.zero_add,Int.natCast_nonneg,Int.ofNat_lt,Nat.lt_succ_self,Int.toNat_natCast];refine AX (hK' _ _ ?_);clear hK' K';refine cA (g:=some (46,false)) rfl rfl fun K' hK'=>?_;simp only[sN,↓hopH.eq_def,sH,↓sP,sA,tyS,simprocAttr,rdV,rdE,rlH,hp1,Bool.not_true,hf2,hf3,(show decide ((l.length:Int)<0)=false from decide_eq_false (by omega)),bV,List.length_append,List.length_map,List.length_cons,List.length_nil,Nat.zero_add,Int.natCast_nonneg,Int.ofNat_lt,Nat.lt_succ_self,Int.toNat_natCast];refine AX (hK' _ _ ?_);clear hK' K';iterate 2 refine SG0 ?_ (e:=fun _ h_=>by simp only[sH,↓sP,sA,tyS,simprocAttr,rdV,rdE,rlH,hp1,Bool.not_true,hf2,hf3,(show decide ((l.length:Int)<0)=false from decide_eq_false (by omega)),bV,List.length_append,List.length_map,List.length_cons,List.length_nil,Nat.zero_add,Int.natCast_nonneg,Int.ofNat_lt,Nat.lt_succ_self,Int.toNat_natCast];exact AX h_)
   refine T2 (hK _ _ _ ?_);clear hK K;refine CT rfl ?_;refine R0 ?_ (e:=fun _ h_=>by simp only[↓sP,sA,tyS,simprocAttr,rdV];exact AX h_);refine aF (RT Tryz.results69 ?_);refine⟨rfl,?_⟩;first
   |exact hno hsh rfl rfl rfl
   |(refine mQ (x':=jX x dd) (b:=true) rfl ?_ ?_ (by rw[hok];rfl) (fun M hM=>by rw[hok]at hM;exact(Option.some.inj hM).symm)<;>simp[upd_at,rlH,rdE,jX])
  have hf2:((w.length:Int) !=2)=true:=bne_iff_ne.2 (by omega);have hsh:lX (l++[x]) w=none:=by rw[hq,if_neg (fun h=>hp2 h.2)]
  refine aB fun K hK=>bY (by kernel_rfl) ?_;simp only[sR,simprocAttr];iterate 20 refine SG0 ?_ (e:=fun _ h_=>by simp only[sH,↓sP,sA,tyS,simprocAttr,hp1,Bool.not_true,hf2,List.length_map];exact AX h_)
  refine T2 (hK _ _ _ ?_);clear hK K;refine CT rfl ?_;refine R0 ?_ (e:=fun _ h_=>by simp only[↓sP,sA,tyS,simprocAttr,rdV];exact AX h_);refine aF (RT Tryz.results69 ?_);refine⟨rfl,?_⟩;first
  |exact hno hsh rfl rfl rfl
  |(refine mQ (x':=jX x dd) (b:=true) rfl ?_ ?_ (by rw[hok];rfl) (fun M hM=>by rw[hok]at hM;exact(Option.some.inj hM).symm)<;>simp[upd_at,rlH,rdE,jX])
 have hf1:(eK (wd w 1)).isSome=false:=by simpa using hp1
 have hsh:lX (l++[x]) w=none:=by
  rw[hq];split
  ·
   cases h:eK (wd w 1)with
   |none=>rfl
   |some z=>rw[h]at hf1;cases hf1
  rfl
 refine aB fun K hK=>bY (by kernel_rfl) ?_;simp only[sR,simprocAttr];iterate 20 refine SG0 ?_ (e:=fun _ h_=>by simp only[sH,↓sP,sA,tyS,simprocAttr,hf1,Bool.not_false];exact AX h_)
 refine T2 (hK _ _ _ ?_);clear hK K;refine CT rfl ?_;refine R0 ?_ (e:=fun _ h_=>by simp only[↓sP,sA,tyS,simprocAttr,rdV];exact AX h_);refine aF (RT Tryz.results69 ?_);refine⟨rfl,?_⟩;first
 |exact hno hsh rfl rfl rfl
 |(refine mQ (x':=jX x dd) (b:=true) rfl ?_ ?_ (by rw[hok];rfl) (fun M hM=>by rw[hok]at hM;exact(Option.some.inj hM).symm)<;>simp[upd_at,rlH,rdE,jX])
theorem bQ9 (w:List aG)(hwl:w.length≤120)(h0:0<w.length)(hdc:wd w 0=jW)(d:Dv):HGe Tryz.prog 69 [rdV d 0 0,.c (.slc (w.map .str))] [.hrow 41 4 (([]:List Ln).map fun z=>HV.c z.cv)] (fun r os'=>r= .tup [rdV d 0 0,.c (.bool false)]∧os'=[.hrow 41 4 (([]:List Ln).map fun z=>HV.c z.cv)]):=by
 refine cI (args:=[rdV d 0 0,.c (.slc (w.map .str))]) Tryz.func69 rfl (by kernel_rfl) (fP rfl (by simp[eH,HO.men,HV.menL]) (by simp[rdV,HV.menL,HV.men])) (Nat.le_of_ble_eq_true rfl) ?_;show Hw _ _ 1 _ _ _ (lst _) 1;rw[cO0];have hdf:(wd w 0==[100,111,99])=true:=by rw[hdc];decide
 have hno: ∀{ob:Ob} {r:HV},r= .tup [rdV d 0 0,.c (.bool false)]→ob 0=some (.hrow 41 4 (([]:List Ln).map fun z=>HV.c z.cv))→iJ 1 r ob (fun r ob'=> ∃os',ob'=lst os'∧(1≤os'.length∧os'.length≤1+4)∧(r= .tup [rdV d 0 0,.c (.bool false)]∧os'=[.hrow 41 4 (([]:List Ln).map fun z=>HV.c z.cv)])):=fun hr h0=>by
  subst hr;refine iD [] [] (.tup [rdV d 0 0,.c (.bool false)]) [.hrow 41 4 (([]:List Ln).map fun z=>HV.c z.cv)] ?_ (by simp[rdV,HV.men,HV.menL]) ⟨⟨by simp[HO.men,HV.menL],by simp,_,(by simpa[tau]using h0),?_⟩,trivial⟩ rfl (by simp) (by simp) (by simp) ⟨rfl,rfl⟩
  · simp[rdV,HV.close,HV.closeL,CV.denil,HV.norm,HV.toC,HV.toCL,HV.ren,HV.renL,tau,Qs.denil,Og.denil,dg_denil]
  simp[HO.close,HO.ren,HV.closeL,HV.renL,sI]
 refine R0 ?_ (e:=fun _ h_=>by simp only[↓sP,sA,tyS,simprocAttr,rdV];exact AX h_);refine aB fun K hK=>?_;have F:=@List.length_map.{0,0};refine RF ?_;refine aH (b:=decide ((w.length:Int)<2)) rfl (fun hb=>?_) (fun hb=>?_)
 · refine R0 ?_ (e:=fun _ h_=>by simp only[↓sP,sA,tyS,simprocAttr,rdV];exact AX h_);refine aF (RT Tryz.results69 ?_);refine⟨rfl,?_⟩;exact hno rfl rfl
 have h2:2≤w.length:=by have:=of_decide_eq_false hb;omega
 clear hb;refine aK ?_;refine T0 (hK _ _ _ ?_);clear hK K;refine aB fun K hK=>?_;refine aB fun K hK=>Rg ?_;iterate 4 refine S0 ?_ (e:=fun _ h_=>by simp only[sH,↓sP,sA,tyS,simprocAttr,List.length_map,cV h0,Int.toNat_zero,hdf];exact AX h_)
 refine T2 (hK _ _ _ ?_);clear hK K;refine CT rfl ?_;refine aB fun K hK=>Rg ?_;iterate 3 refine S0 ?_ (e:=fun _ h_=>by simp only[sH,↓sP,sA,tyS,simprocAttr,List.length_map,cV (show 1<w.length by omega),Int.toNat_one];exact AX h_)
 refine HS rfl rfl fun K' hK'=>?_;simp only[sH,↓sP,sA,tyS,simprocAttr,List.length_map,cV (show 1<w.length by omega),Int.toNat_one];refine D1 (kV (wd w 1)) ?_;rintro u v ⟨rfl,rfl⟩;refine AX (hK' _ _ ?_);clear hK' K';iterate 6 refine S0 ?_ (e:=fun _ h_=>by simp only[sH,↓sP,sA,tyS,simprocAttr,List.length_map,cV (show 1<w.length by omega),Int.toNat_one];exact AX h_)
 refine T2 (hK _ _ _ ?_);clear hK K;refine aB fun K hK=>bY (by kernel_rfl) ?_;simp only[sR,simprocAttr];iterate 2 refine SG0 ?_ (e:=fun _ h_=>by simp only[sH,↓sP,sA,tyS,simprocAttr,rdV,List.length_nil,List.map_nil,(show IntKind.i64.wrap (((0:Nat):Int)-1)= -1 from rfl),(show IntKind.i64.wrap (-1)= -1 from rfl)];exact AX h_)
 refine cA (g:=none) rfl rfl fun K' hK'=>?_;simp only[sN,↓hopH.eq_def,sH,↓sP,sA,tyS,simprocAttr,rdV,List.length_nil,List.map_nil,(show IntKind.i64.wrap (((0:Nat):Int)-1)= -1 from rfl),(show IntKind.i64.wrap (-1)= -1 from rfl)];refine AX (hK' _ _ ?_);clear hK' K';iterate 2 refine SG0 ?_ (e:=fun _ h_=>by simp only[sH,↓sP,sA,tyS,simprocAttr,rdV,List.length_nil,List.map_nil,(show IntKind.i64.wrap (((0:Nat):Int)-1)= -1 from rfl),(show IntKind.i64.wrap (-1)= -1 from rfl)];exact AX h_)
 refine T2 (hK _ _ _ ?_);clear hK K;refine aB fun K hK=>?_;by_cases hp1:(eK (wd w 1)).isSome=true
 ·
  by_cases hp2:w.length=2
  ·
   have hf2:((w.length:Int) !=2)=false:=by rw[hp2];rfl
   refine aB fun K hK=>Rg ?_;iterate 20 refine S0 ?_ (e:=fun _ h_=>by simp only[sH,↓sP,sA,tyS,simprocAttr,hp1,Bool.not_true,hf2,List.length_map,(show decide ((-1:Int)<0)=true from rfl),(show((-1:Int)<0)=True from by simp),(show IntKind.i64.wrap (-1)= -1 from rfl),↓reduceIte];exact AX h_)
   refine T2 (hK _ _ _ ?_);clear hK K;refine CT rfl ?_;refine R0 ?_ (e:=fun _ h_=>by simp only[↓sP,sA,tyS,simprocAttr,rdV];exact AX h_);refine aF (RT Tryz.results69 ?_);refine⟨rfl,?_⟩;exact hno rfl rfl
  have hf2:((w.length:Int) !=2)=true:=bne_iff_ne.2 (by omega);refine aB fun K hK=>Rg ?_;iterate 20 refine S0 ?_ (e:=fun _ h_=>by simp only[sH,↓sP,sA,tyS,simprocAttr,hp1,Bool.not_true,hf2,List.length_map];exact AX h_)
  refine T2 (hK _ _ _ ?_);clear hK K;refine CT rfl ?_;refine R0 ?_ (e:=fun _ h_=>by simp only[↓sP,sA,tyS,simprocAttr,rdV];exact AX h_);refine aF (RT Tryz.results69 ?_);refine⟨rfl,?_⟩;exact hno rfl rfl
 have hf1:(eK (wd w 1)).isSome=false:=by simpa using hp1
 refine aB fun K hK=>Rg ?_;iterate 20 refine S0 ?_ (e:=fun _ h_=>by simp only[sH,↓sP,sA,tyS,simprocAttr,hf1,Bool.not_false];exact AX h_)
 refine T2 (hK _ _ _ ?_);clear hK K;refine CT rfl ?_;refine R0 ?_ (e:=fun _ h_=>by simp only[↓sP,sA,tyS,simprocAttr,rdV];exact AX h_);refine aF (RT Tryz.results69 ?_);refine⟨rfl,?_⟩;exact hno rfl rfl
theorem bR0 (l:List UInt8)(c:UInt8):cJ Tryz.prog 157 [.str l,u8 c] (fun v=>v= .int .i64 (Lib.countByte l c:Nat)):=
 uT (f:=157) (fn:=Tryz.f157) (e:=Extern.BytealgCount.count) Tryz.func157 (by kernel_rfl) (by kernel_rfl) (by kernel_rfl) (by kernel_rfl) fun w ρ O xs h=>by
  simp only[List.map_cons,List.map_nil,bK,RepHV]at h;obtain⟨x,l1,rfl,hx,y,l2,rfl,hy,rfl⟩:=h;have h1:=RepV.single hx rfl;have h2:=RepV.single hy rfl;simp only[u8,RepC,List.cons.injEq,and_true]at h1 h2;subst h1 h2;refine⟨_,_,rfl,eF _ _ _ _ _,?_⟩;have:=Lib.run_countString (P:=Tryz.prog) ⟨l.toArray⟩ (c.toNat:Int) w;simpa using this
theorem bB8 (l:List UInt8)(c:UInt8):cJ Tryz.prog 158 [.str l,.str [c]] (fun v=>v= .int .i64 (fH l c)):=by
 refine FW Tryz.func158 ?_;refine R0 ?_;refine R0 ?_;refine aB fun K hK=>?_;refine aN ?_;refine aB fun K hK=>Rg ?_;iterate 3 refine S0 ?_
 refine aL 18 rfl (fun h2_18=>?_) (fun h2_18=>?_)
 ·
  have F:=h2_18;iterate 5 refine SF ?_
  refine T2 (hK _ _ _ ?_);clear hK K;refine CT rfl ?_;refine R0 ?_;refine aF (RT Tryz.results158 ?_);exact absurd h2_18 (by decide)
 have F:=h2_18;iterate 5 refine SF ?_
 refine aL 22 rfl (fun h2_22=>?_) (fun h2_22=>?_)
 · simp only[h2_22];refine T2 (hK _ _ _ ?_);clear hK K;refine CT rfl ?_;refine R0 ?_;refine aF (RT Tryz.results158 ?_);have hl:l=[c]:=(eq_of_beq h2_22).symm;subst hl;exact aJ [] (.int .i64 0) rfl (by simp[fH])
 simp only[h2_22];refine T2 (hK _ _ _ ?_);clear hK K;refine CF rfl ?_;refine R0 ?_;refine aH (b:=(1:Int)==1) rfl (fun hb=>?_) (fun hb=>?_)
 ·
  refine aB fun K hK=>Rg ?_;have F:=aI @List.getD_cons_zero.{0} (aI h2_18 h2_22);iterate 3 refine SF ?_
  refine HS rfl rfl fun K' hK'=>T6 ?_;refine C2 (bZ9 l c) ?_;rintro u rfl;refine AX (hK' _ _ ?_);clear hK' K';refine SF ?_;refine T2 (hK _ _ _ ?_);clear hK K;refine aF (RT Tryz.results158 ?_);exact aJ [] (.int .i64 (fH l c)) rfl rfl
 exact absurd hb (by decide)
theorem aV6 (l:List UInt8)(c:UInt8):cJ Tryz.prog 132 [.str l,.str [c]] (fun v=>v= .int .i64 (fH l c)):=by
 refine FW Tryz.func132 ?_;refine R0 ?_;refine aB fun K hK=>Rg ?_;iterate 2 refine S0 ?_
 refine HS rfl rfl fun K' hK'=>T5 ?_;refine C2 (bB8 l c) ?_;rintro u rfl;refine AX (hK' _ _ ?_);clear hK' K';refine S0 ?_;refine T2 (hK _ _ _ ?_);clear hK K;refine aF (RT Tryz.results132 ?_);exact aJ [] (.int .i64 (fH l c)) rfl rfl
theorem aV7 (l:List UInt8)(c:UInt8):cJ Tryz.prog 131 [.str l,.str [c]] (fun v=>v= .int .i64 (Lib.countByte l c:Nat)):=by
 refine FW Tryz.func131 ?_;refine R0 ?_;refine aB fun K hK=>?_;refine R0 ?_;refine aH (b:=(1:Int)==0) rfl (fun hb=>?_) (fun hb=>?_)
 · exact absurd hb (by decide)
 refine aK ?_;refine T0 (hK _ _ _ ?_);clear hK K;refine aB fun K hK=>?_;refine R0 ?_;refine aH (b:=(1:Int)==1) rfl (fun hb=>?_) (fun hb=>?_)
 ·
  refine aB fun K hK=>Rg ?_;have F:=@List.getD_cons_zero.{0};iterate 3 refine SF ?_
  refine HS rfl rfl fun K' hK'=>T6 ?_;refine C2 (bR0 l c) ?_;rintro u rfl;refine AX (hK' _ _ ?_);clear hK' K';refine SF ?_;refine T2 (hK _ _ _ ?_);clear hK K;refine aF (RT Tryz.results131 ?_);exact aJ [] (.int .i64 _) rfl rfl
 exact absurd hb (by decide)
theorem aV8 (l:List UInt8)(c:UInt8)(hl:l.length<2^40):cJ Tryz.prog 100 [.str l,.str [c],.int .i64 0,.int .i64 (-1)] (fun v=>v= .slc ((aU c l).map .str)):=by
 refine FW Tryz.func100 ?_;refine R0 ?_;refine aB fun K hK=>?_;refine R0 ?_;refine aH (b:=(-1:Int)==0) rfl (fun hb=>?_) (fun hb=>?_)
 · exact absurd hb (by decide)
 refine aK ?_;refine T0 (hK _ _ _ ?_);clear hK K;refine aB fun K hK=>?_;refine R0 ?_;refine aH (b:=[c]==[]) rfl (fun hb=>?_) (fun hb=>?_)
 · exact absurd hb (by simp)
 refine aK ?_;refine T0 (hK _ _ _ ?_);clear hK K;refine aB fun K hK=>?_;refine R0 ?_;refine aH (b:=decide ((-1:Int)<0)) rfl (fun hb=>?_) (fun hb=>?_)
 ·
  obtain⟨n,hn⟩: ∃n,n=(aU c l).length:=⟨_,rfl⟩;have hcount:=tB c l;have hlen:=eV c l;rw[←hn]at hcount hlen;have hw0:IntKind.i64.wrap ((Lib.countByte l c:Nat)+1:Int)=(n:Int):=by rw[IntWalk.i64_in _ (by omega)];omega
  refine Rg ?_;have F:=hw0;iterate 2 refine SF ?_
  refine HS rfl rfl fun K' hK'=>T6 ?_;refine C2 (aV7 l c) ?_;rintro u rfl;refine AX (hK' _ _ ?_);clear hK' K';iterate 2 refine SF ?_
  refine T2 (hK _ _ _ ?_);clear hK K;have hw1:IntKind.i64.wrap ((l.length:Int)+1)=((l.length+1:Nat):Int):=by rw[IntWalk.i64_in _ (by omega)];omega
  have hmin:(if((l.length+1:Nat):Int)<(n:Int)then((l.length+1:Nat):Int)else(n:Int))=(n:Int):=by rw[if_neg (by omega)]
  refine aB fun K hK=>Rg ?_;have F:=aI hw1 hmin;iterate 6 refine SF ?_
  refine T2 (hK _ _ _ ?_);clear hK K;have hn0:((n:Int)=0)=False:=by simp;omega
  have hrep:(List.replicate n (CV.str []))=(List.replicate n ([]:aG)).map .str:=by simp
  have F:=aI hn0 (aI hrep @Int.toNat_natCast);refine RF ?_;have hw2:IntKind.i64.wrap ((n:Int)-1)=((n-1:Nat):Int):=by rw[IntWalk.i64_in _ (by omega)];omega
  have F:=hw2;refine RF ?_;refine R0 ?_;refine aB fun K hK=>?_;refine aN ?_;have hn1:1≤n:=by rw[hn];exact List.length_pos_iff.2 (dF c l)
  refine bF (α:={y:Nat×aG×List aG//SplSt l c y.1 y.2.1 y.2.2}) (fun y=>(fin [(0,.c (.str y.1.2.1)),(1,.c (.str [c])),(2,.c (.int .i64 0)),(3,.c (.int .i64 (n-1:Nat))),(9,.own 76 n),(10,.c (.int .i64 y.1.1))],fob [(76,.row 9 1 (y.1.2.2.map .str))])) 100 (fun y=>y.1.2.1.length) ⟨(0,l,List.replicate n []),by rw[hn];exact SplSt.init l c⟩ (fF) ?_;rintro⟨⟨i,rest,a⟩,hst⟩;simp only at hst;have hin:i<n:=by rw[hn];exact hst.2.2.2.1
  have hal:a.length=n:=by rw[hn];exact hst.1
  have hia:i<a.length:=by omega
  have hna:nth (a.map CV.str) i= .str a[i]:=bP hia;have hrl:=hst.2.2.2.2;refine aB fun K hK=>?_;refine R0 ?_;refine aH (b:=decide ((i:Int)<((n-1:Nat):Int))) rfl (fun hb=>?_) (fun hb=>?_)
  ·
   have hi1:i+1<n:=by simp at hb;omega
   clear hb;refine aK ?_;refine T0 (hK _ _ _ ?_);clear hK K;refine aN ?_;refine aB fun K hK=>Rg ?_;iterate 2 refine S0 ?_
   refine HS rfl rfl fun K' hK'=>T5 ?_;refine C2 (aV6 rest c) ?_;rintro u rfl;refine AX (hK' _ _ ?_);clear hK' K';refine S0 ?_;refine T2 (hK _ _ _ ?_);clear hK K;refine aB fun K hK=>?_;refine R0 ?_;refine aH (b:=decide (fH rest c<0)) rfl (fun hb=>?_) (fun hb=>?_)
   · have:=hst.last (by simpa using hb);omega
   obtain⟨k,hk,hkl,_⟩:=iQ (l:=rest) (c:=c) (by simpa using hb);obtain⟨_,hnx⟩:=hst.next hk;rw[hk];have hkl1:k+1≤rest.length:=hkl;have hw3:IntKind.i64.wrap ((k:Int)+0)=(k:Int):=by rw[IntWalk.i64_in _ (by omega)];omega
   have hw4:IntKind.i64.wrap ((k:Int)+1)=((k+1:Nat):Int):=by rw[IntWalk.i64_in _ (by omega)];rfl
   have hw5:IntKind.i64.wrap ((i:Int)+1)=((i+1:Nat):Int):=by rw[IntWalk.i64_in _ (by omega)];rfl
   have htd:List.take (rest.length-(k+1)) (List.drop (k+1) rest)=List.drop (k+1) rest:=List.take_of_length_le (by simp);refine aK ?_;refine T0 (hK _ _ _ ?_);clear hK K;refine aB fun K hK=>Rg ?_;iterate 9 refine S0 ?_ (e:=fun _ h_=>by simp only[sH,↓sP,sA,tyS,simprocAttr,Int.natCast_nonneg,Int.ofNat_le,Int.ofNat_lt,Nat.le_of_lt hkl,hw3,Nat.sub_zero,List.drop_zero,List.length_map,hal,hin,hna];exact AX h_)
   refine T2 (hK _ _ _ ?_);clear hK K;refine aB fun K hK=>Rg ?_;have F:=aI @Int.natCast_nonneg (aI @Int.ofNat_le (aI hkl1 (aI hw4 htd)));iterate 7 refine SF ?_
   refine T2 (hK _ _ _ ?_);clear hK K;refine aD (by kernel_rfl) ?_;refine TQ hw5 ?_;refine⟨⟨(i+1,rest.drop (k+1),a.set i (rest.take k)),hnx⟩,aM (by omega) ?_ ?_,?_⟩
   · simp[aW,upd_at,fin_at,HV.men]
   · simp only[aX,List.map_set];exact⟨rfl,by omega,trivial,trivial⟩
   show(rest.drop (k+1)).length<rest.length;simp;omega
  refine bA (T3 ?_);clear hK K;refine AX (hK _ _ _ ?_);clear hK K;have hi1:i+1=n:=by simp at hb;omega
  have hfin:=hst.fin (by omega);have hw5:IntKind.i64.wrap ((i:Int)+1)=(n:Int):=by rw[IntWalk.i64_in _ (by omega)];omega
  refine aB fun K hK=>Rg ?_;have F:=aI @Int.natCast_nonneg (aI @Int.ofNat_lt (aI @List.length_map.{0,0} (aI hal (aI hin hna))));iterate 5 refine SF ?_
  refine T2 (hK _ _ _ ?_);clear hK K;refine aB fun K hK=>Rg ?_;have F:=aI @Int.natCast_nonneg (aI hw5 (aI @List.length_map.{0,0} (aI @List.length_set.{0} (aI hal @Int.le_refl))));iterate 5 refine SF ?_
  refine T2 (hK _ _ _ ?_);clear hK K;refine aF (RT Tryz.results100 ?_);refine aJ [76] (.slc ((aU c l).map .str)) ?_ rfl;have hset:(a.map CV.str).set i (CV.str rest)=(aU c l).map .str:=by rw[←List.map_set,hfin]
  have ht:List.take n ((aU c l).map CV.str)=(aU c l).map .str:=List.take_of_length_le (by simp[hn]);rw[hset];have hn0':0<n:=hn1;simp[HV.close,upd_at,←hn,HV.norm,HV.toC,CV.denil,denilL_str,ht,hn0']
 exact absurd hb (by decide)
theorem aV9 (l:List UInt8)(c:UInt8)(hl:l.length<2^40):cJ Tryz.prog 70 [.str l,.str [c]] (fun v=>v= .slc ((aU c l).map .str)):=by
 refine FW Tryz.func70 ?_;refine R0 ?_;refine aB fun K hK=>Rg ?_;iterate 2 refine S0 ?_
 refine HS rfl rfl fun K' hK'=>T5 ?_;refine C4 (aV8 l c hl) ?_;rintro u rfl;refine AX (hK' _ _ ?_);clear hK' K';refine S0 ?_;refine T2 (hK _ _ _ ?_);clear hK K;refine aF (RT Tryz.results70 ?_);exact aJ [] (.slc ((aU c l).map .str)) (by simp[HV.close,HV.norm,HV.toC,CV.denil,denilL_str]) rfl
theorem cM3 (s:aG)(hl:s.length<2^40):eU Tryz.prog 71 [.str s] (fun u v=>u= .str ((unW s).getD [])∧v= .bool (unW s).isSome):=by
 refine FW Tryz.func71 ?_;refine R0 ?_;refine aB fun K hK=>?_;refine R0 ?_;refine aH (b:=s==[126]) rfl (fun hb=>?_) (fun hb=>?_)
 ·
  refine R0 ?_;refine aF (RT Tryz.results71 ?_);have hs:s=[126]:=by simpa using hb
  subst hs;exact aR [] (.str []) (.bool true) rfl ⟨rfl,rfl⟩
 refine aK ?_;refine T0 (hK _ _ _ ?_);clear hK K;refine aB fun K hK=>?_;have hne:s≠[126]:=by simpa using hb
 clear hb;refine R0 ?_;refine aH (b:=s==[]) rfl (fun hb=>?_) (fun hb=>?_)
 ·
  refine R0 ?_;refine aF (RT Tryz.results71 ?_);have hs:s=[]:=by simpa using hb
  subst hs;exact aR [] (.str []) (.bool false) rfl ⟨rfl,rfl⟩
 refine aK ?_;refine T0 (hK _ _ _ ?_);clear hK K;have hne0:s≠[]:=by simpa using hb
 clear hb;refine R0 ?_;refine aB fun K hK=>?_;refine R0 ?_;refine aN ?_;refine gQ 4 0 5 1 rfl rfl rfl rfl ?_;refine bF (α:={y:Nat×aG//UnSt s y.1 y.2}) (fun y=>(fin [(0,.c (.str s)),(4,.own 32 y.1.2.length),(5,.c (.int .i64 y.1.1))],fob [(32,.row 5 1 (y.1.2.map dG))])) 100 (fun y=>s.length-y.1.1) ⟨(0,[]),UnSt.init s⟩ (fF) ?_;rintro⟨⟨i,out⟩,hst⟩;simp only at hst;have hi:=hst.1;have ho:=hst.2.2.2;refine aB fun K hK=>?_;refine aB fun K hK=>Rg ?_;iterate 4 refine S0 ?_
 refine T2 (hK _ _ _ ?_);clear hK K;refine aH (b:=decide ((i:Int)<s.length)) rfl (fun hb=>?_) (fun hb=>?_)
 ·
  have hlt:i<s.length:=by simpa using hb
  clear hb;have hgd:s.getD i 0=s[i]:=by simp[hlt]
  refine aK ?_;refine T0 (hK _ _ _ ?_);clear hK K;refine aB fun K hK=>?_;refine aN ?_;refine aB fun K hK=>?_;refine aB fun K hK=>Rg ?_;iterate 3 refine S0 ?_ (e:=fun _ h_=>by simp only[sH,↓sP,sA,tyS,simprocAttr,Int.natCast_nonneg,Int.ofNat_lt,hlt,hgd];exact AX h_)
  refine HS rfl rfl fun K' hK'=>?_;simp only[sH,↓sP,sA,tyS,simprocAttr,Int.natCast_nonneg,Int.ofNat_lt,hlt,hgd];refine C1 (vF s[i]) ?_;rintro u rfl;refine AX (hK' _ _ ?_);clear hK' K';refine T2 (hK _ _ _ ?_);clear hK K;refine aH (b:=cT s[i]) rfl (fun hb=>?_) (fun hb=>?_)
  ·
   refine aB fun K hK=>Rg ?_;iterate 7 refine S0 ?_ (e:=fun _ h_=>by simp only[sH,↓sP,sA,tyS,simprocAttr,Int.natCast_nonneg,Int.ofNat_lt,hlt,hgd,List.length_append,List.length_map];exact AX h_)
   refine T2 (hK _ _ _ ?_);clear hK K;refine bA (T3 ?_);clear hK K;refine AX (hK _ _ _ ?_);clear hK K;refine aD (by kernel_rfl) ?_;refine TQ (fA i) ?_;refine⟨⟨(i+1,out++[s[i]]),hst.plain hlt hb⟩,aM (by omega) ?_ ?_,?_⟩
   · simp[aW,upd_at,fin_at,HV.men]
   · simp only[aX,List.map_append];exact⟨rfl,by omega,trivial,trivial⟩
   show s.length-(i+1)<s.length-i;omega
  refine aK ?_;refine T0 (hK _ _ _ ?_);clear hK K;refine aB fun K hK=>?_;have hp:cT s[i]=false:=hb;clear hb;have hw1:IntKind.i64.wrap ((i:Int)+1)=((i+1:Nat):Int):=by rw[IntWalk.i64_in _ (by omega)];rfl
  have hw2:IntKind.i64.wrap ((i:Int)+2)=((i+2:Nat):Int):=by rw[IntWalk.i64_in _ (by omega)];rfl
  have hw3:IntKind.i64.wrap (((i+2:Nat):Int)+1)=((i+3:Nat):Int):=by rw[IntWalk.i64_in _ (by omega)];rfl
  have hwd:IntKind.i64.wrap ((s.length:Int)-(i:Int))=((s.length-i:Nat):Int):=by rw[IntWalk.i64_in _ (by omega)];omega
  refine aB fun K hK=>Rg ?_;iterate 5 refine S0 ?_ (e:=fun _ h_=>by simp only[sH,↓sP,sA,tyS,simprocAttr,Int.natCast_nonneg,Int.ofNat_lt,hlt,hgd,hwd];exact AX h_)
  refine aL 31 rfl (fun h11_31=>?_) (fun h11_31=>?_)
  ·
   iterate 6 refine S0 ?_ (e:=fun _ h_=>by simp only[sH,↓sP,sA,tyS,simprocAttr,Int.natCast_nonneg,Int.ofNat_lt,hlt,hgd,hwd,h11_31];exact AX h_)
   refine T2 (hK _ _ _ ?_);clear hK K;refine CT rfl ?_;refine R0 ?_;refine aF (RT Tryz.results71 ?_);have h37:s[i]≠37:=by rintro h;rw[h]at h11_31;simp at h11_31
   have hn:=gY (hst.bad1 hlt hp (.inl h37)) hne;exact aR [] (.str []) (.bool false) rfl ⟨by rw[hn];rfl,by rw[hn];rfl⟩
  iterate 6 refine S0 ?_ (e:=fun _ h_=>by simp only[sH,↓sP,sA,tyS,simprocAttr,Int.natCast_nonneg,Int.ofNat_lt,hlt,hgd,hwd,h11_31];exact AX h_)
  refine aL 37 rfl (fun h11_37=>?_) (fun h11_37=>?_)
  ·
   simp only[h11_37];refine T2 (hK _ _ _ ?_);clear hK K;refine CT rfl ?_;refine R0 ?_;refine aF (RT Tryz.results71 ?_);have hi2:s.length≤i+2:=by simp at h11_37;omega
   have hn:=gY (hst.bad1 hlt hp (.inr hi2)) hne;exact aR [] (.str []) (.bool false) rfl ⟨by rw[hn];rfl,by rw[hn];rfl⟩
  simp only[h11_37];refine T2 (hK _ _ _ ?_);clear hK K;refine CF rfl ?_;refine aK ?_;refine T0 (hK _ _ _ ?_);clear hK K;have h37:s[i]=37:=by
   simp only[bne_eq_false_iff_eq]at h11_31;exact UInt8.toNat_inj.1 (by show s[i].toNat=37;omega)
  have hi2:i+2<s.length:=by simp at h11_37;omega
  have hi1:i+1<s.length:=by omega
  have hg1:s.getD (i+1) 0=s[i+1]:=by simp[hi1]
  have hg2:s.getD (i+2) 0=s[i+2]:=by simp[hi2]
  refine aB fun K hK=>DW [(0,[],[]),(1,[],[]),(2,[],[]),(3,[],[]),(5,[],[]),(6,[],[]),(7,[],[]),(8,[],[]),(4,[],[5,6,7,8]),(9,[],[]),(10,[],[]),(11,[],[])] [0,0,2,7,15,0,0,64,224,511,1023,2047] ?_;have F:=aI @Int.natCast_nonneg (aI @Int.ofNat_lt (aI hw1 (aI hw2 (aI hg1 (aI hg2 (aI hi1 (aI hi2 (aI h11_31 h11_37))))))));iterate 8 refine WF ?_
  refine bL (g:=none) rfl rfl fun K' hK'=>T6 ?_;refine C1 (aS7 s[i+1]) ?_;rintro u rfl;refine AX (hK' _ _ ?_);clear hK' K';refine bL (g:=none) rfl rfl fun K' hK'=>T6 ?_;refine C1 (aS7 s[i+2]) ?_;rintro u rfl;refine AX (hK' _ _ ?_);clear hK' K';iterate 2 refine WF ?_
  refine T2 (hK _ _ _ ?_);clear hK K;refine aB fun K hK=>?_;by_cases hx:valH s[i+1]<16
  ·
   by_cases hy:valH s[i+2]<16
   ·
    have hx0:(((valH s[i+1]:Nat):Int)==16)=false:=by rw[beq_eq_false_iff_ne];omega
    have hy0:(((valH s[i+2]:Nat):Int)==16)=false:=by rw[beq_eq_false_iff_ne];omega
    have e1:IntKind.i64.wrap (16*((valH s[i+1]:Nat):Int))=((16*valH s[i+1]:Nat):Int):=by rw[IntWalk.i64_in _ (by omega)];omega
    have e2:IntKind.i64.wrap (((16*valH s[i+1]:Nat):Int)+((valH s[i+2]:Nat):Int))=((16*valH s[i+1]+valH s[i+2]:Nat):Int):=by rw[IntWalk.i64_in _ (by omega)];omega
    have e3:IntKind.u8.wrap ((16*valH s[i+1]+valH s[i+2]:Nat):Int)=((byteH s[i+1] s[i+2]).toNat:Int):=by rw[IntWalk.u8_in _ (by omega),uV hx hy]
    refine aB fun K hK=>Rg ?_;have F:=aI hx0 (aI hy0 (aI e1 (aI e2 (aI e3 (aI h11_31 h11_37)))));iterate 12 refine SF ?_
    refine aE (g:=some (55,false)) rfl rfl fun K' hK'=>T6 ?_;refine C1 (vF (byteH s[i+1] s[i+2])) ?_;rintro u rfl;refine AX (hK' _ _ ?_);clear hK' K';refine SF ?_;refine T2 (hK _ _ _ ?_);clear hK K;refine aH (b:=cT (byteH s[i+1] s[i+2])) rfl (fun hb=>?_) (fun hb=>?_)
    · refine R0 ?_;refine aF (RT Tryz.results71 ?_);have hn:=gY (hst.bad2 hi2 h37 (by simp[okH,hx,hy,hb])) hne;exact aR [] (.str []) (.bool false) rfl ⟨by rw[hn];rfl,by rw[hn];rfl⟩
    refine aK ?_;refine T0 (hK _ _ _ ?_);clear hK K;refine aB fun K hK=>Rg ?_;have F:=aI @Int.natCast_nonneg (aI @List.length_append.{0} (aI @List.length_map.{0,0} (aI e1 (aI e2 (aI e3 (aI h11_31 h11_37))))));iterate 9 refine SF ?_
    refine T2 (hK _ _ _ ?_);clear hK K;refine aD (by kernel_rfl) ?_;refine TQ hw2 ?_;refine AX (hK _ _ _ ?_);clear hK K;refine aD (by kernel_rfl) ?_;refine TQ hw3 ?_;refine⟨⟨(i+3,out++[byteH s[i+1] s[i+2]]),hst.esc hi2 h37 (by simp[okH,hx,hy,hb])⟩,aM (by omega) ?_ ?_,?_⟩
    · simp[aW,upd_at,fin_at,HV.men]
    · simp only[aX,List.map_append];exact⟨rfl,by omega,trivial,trivial⟩
    show s.length-(i+3)<s.length-i;omega
   have hx0:(((valH s[i+1]:Nat):Int)==16)=false:=by rw[beq_eq_false_iff_ne];omega
   have hy0:(((valH s[i+2]:Nat):Int)==16)=true:=by have:=bE8 s[i+2];rw[beq_iff_eq];omega
   refine aB fun K hK=>Rg ?_;have F:=aI hx0 (aI hy0 (aI h11_31 h11_37));iterate 14 refine SF ?_
   refine T2 (hK _ _ _ ?_);clear hK K;refine CT rfl ?_;refine R0 ?_;refine aF (RT Tryz.results71 ?_);have hn:=gY (hst.bad2 hi2 h37 (by simp[okH,hx,hy])) hne;exact aR [] (.str []) (.bool false) rfl ⟨by rw[hn];rfl,by rw[hn];rfl⟩
  have hx0:(((valH s[i+1]:Nat):Int)==16)=true:=by have:=bE8 s[i+1];rw[beq_iff_eq];omega
  refine aB fun K hK=>Rg ?_;have F:=aI hx0 (aI h11_31 h11_37);iterate 14 refine SF ?_
  refine T2 (hK _ _ _ ?_);clear hK K;refine CT rfl ?_;refine R0 ?_;refine aF (RT Tryz.results71 ?_);have hn:=gY (hst.bad2 hi2 h37 (by simp[okH,hx])) hne;exact aR [] (.str []) (.bool false) rfl ⟨by rw[hn];rfl,by rw[hn];rfl⟩
 refine bA (T3 ?_);clear hK K;refine AX (hK _ _ _ ?_);clear hK K;have hei:i=s.length:=by simp at hb;omega
 have hfin:=hst.fin hei hne;have ho0:out≠[]:=fun h=>hne0 (List.eq_nil_of_length_eq_zero (by have:=hst.2.2.1 h;omega));rw[if_neg ho0]at hfin;refine cR [32] (bE (fr2:=fin [(4,.c (.slc (out.map dG)))]) (ob2:=fob []) (nx2:=200) (aM (by omega) (by simp[aW,dA,fin_at,finA_at,upd_at,fob_at,HV.close,HV.closeL,CV.denil,CV.denilL,bU,HV.men,HV.menL,HV.norm,HV.toC,HV.toCL]) (by simp[aX,dL,fob_at,upd_at,none0_at,bT,HO.close,HV.close,HV.closeL,HO.men,HV.men,HV.menL,HV.norm,HV.toC,HV.toCL])) ?_);refine aB fun K hK=>Rg ?_;have F:=aI @bytesC_map @List.length_map.{0,0};iterate 4 refine SF ?_
 refine T2 (hK _ _ _ ?_);clear hK K;refine aF (RT Tryz.results71 ?_);exact aR [] (.str out) (.bool true) rfl ⟨by rw[hfin];rfl,by rw[hfin];rfl⟩
theorem cM4 (b:aG)(hl:b.length<2^40):eU Tryz.prog 33 [.slc (b.map u8)] (fun u v=>u= .slc ((gZ b).map lsC)∧v= .int .i64 (eW b)):=by
 refine FW Tryz.func33 ?_;refine R0 ?_;refine aB fun K hK=>?_;have F:=@List.length_map.{0,0};refine RF ?_;refine aH (b:=decide ((262144:Int)<b.length)) rfl (fun hb=>?_) (fun hb=>?_)
 ·
  refine R0 ?_;refine aF (RT Tryz.results33 ?_);have hE:eW b=3:=by unfold eW;rw[if_pos (by simp at hb;omega)]
  refine aR [] (.slc []) (.int .i64 3) ?_ ⟨by simp only[gZ,hE];rfl,by rw[hE]⟩;simp[HV.close,HV.closeL,CV.denil,CV.denilL,HV.norm,HV.toC,HV.toCL]
 refine aK ?_;refine T0 (hK _ _ _ ?_);clear hK K;refine aB fun K hK=>?_;have hle: ¬262144<b.length:=by simp at hb;omega
 clear hb;refine RF ?_;refine aH (b:=(b.length:Int)==0) rfl (fun hb=>?_) (fun hb=>?_)
 ·
  refine R0 ?_;refine aF (RT Tryz.results33 ?_);have hbe:b=[]:=by simpa using hb
  subst hbe;refine aR [] (.slc []) (.int .i64 0) ?_ ⟨rfl,rfl⟩;simp[HV.close,HV.closeL,CV.denil,CV.denilL,HV.norm,HV.toC,HV.toCL]
 refine aK ?_;refine T0 (hK _ _ _ ?_);clear hK K;refine aB fun K hK=>?_;have hne:b≠[]:=by rintro rfl;simp at hb
 clear hb;have hpos:0<b.length:=List.length_pos_iff.2 hne;have hlt1:b.length-1<b.length:=by omega
 have hwl:IntKind.i64.wrap ((b.length:Int)-1)=((b.length-1:Nat):Int):=by rw[IntWalk.i64_in _ (by omega)];omega
 refine aB fun K hK=>Rg ?_;have F:=aI @List.length_map.{0,0} (aI hwl (aI @Int.natCast_nonneg (aI @Int.ofNat_lt (aI hlt1 (aI (nM hlt1) @u8.eq_1)))));iterate 7 refine SF ?_
 refine T2 (hK _ _ _ ?_);clear hK K;refine aH (b:=((b[b.length-1]).toNat:Int) !=10) rfl (fun hb=>?_) (fun hb=>?_)
 ·
  refine R0 ?_;refine aF (RT Tryz.results33 ?_);have hE:eW b=2:=bL9 hle hne (by
   intro h;rw[List.getD_eq_getElem?_getD,List.getElem?_eq_getElem hlt1]at h;simp only[Option.getD_some]at h;rw[h]at hb;simp at hb)
  refine aR [] (.slc []) (.int .i64 2) ?_ ⟨by simp only[gZ,hE];rfl,by rw[hE]⟩;simp[HV.close,HV.closeL,CV.denil,CV.denilL,HV.norm,HV.toC,HV.toCL]
 refine aK ?_;refine T0 (hK _ _ _ ?_);clear hK K;have hl10:b[b.length-1]=10:=by
  simp only[bne_eq_false_iff_eq]at hb;exact UInt8.toNat_inj.1 (by show b[b.length-1].toNat=10;omega)
 clear hb;obtain⟨m,hm⟩: ∃m,b=m++[10]:=⟨b.dropLast,by rw[←hl10,←List.getLast_eq_getElem hne];exact(List.dropLast_concat_getLast hne).symm⟩;have htk:List.take (b.length-1) (b.map u8)=m.map u8:=by rw[hm];simp
 have hbc:iS (m.map u8)=some m:=bytesC_map m;have hml:m.length+1=b.length:=by rw[hm];simp
 have hml3:(m++[(10:UInt8)]).length=m.length+1:=by simp
 rw[hm]at hle;refine aB fun K hK=>Rg ?_;have F:=aI @List.length_map.{0,0} (aI hwl (aI @Int.natCast_nonneg (aI @Int.ofNat_le (aI @Nat.sub_le (aI @iU (aI @List.drop_zero.{0} (aI @Nat.sub_zero (aI htk hbc))))))));iterate 6 refine SF ?_
 refine HS rfl rfl fun K' hK'=>T6 ?_;refine C2 (aV9 m 10 (by omega)) ?_;rintro u rfl;refine AX (hK' _ _ ?_);clear hK' K';refine SF ?_;refine T2 (hK _ _ _ ?_);clear hK K;obtain⟨rows,hrows⟩: ∃rows,rows=aU 10 m:=⟨_,rfl⟩;have hrl:=eV 10 m;have hrs:=nE 10 m;rw[←hrows]at hrl hrs⊢;have hE2:rows.mapM unL=none→eW b=2:=fun h=>by rw[hm];exact bM0 hle (by rw[←hrows];exact h)
 refine R0 ?_;refine aB fun K hK=>?_;refine R0 ?_;refine aN ?_;refine gQ 5 0 71 1 rfl rfl rfl rfl ?_;refine bF (α:={i:Nat//i≤rows.length∧ ∀r∈rows.take i,(unL r).isSome=true}) (fun i=>(fin [(4,.c (.slc (rows.map .str))),(5,.own 100 i.1),(6,.c (.int .i64 i.1))],fob [(100,.row 71 1 ((lsT rows i.1).map lsC))])) 200 (fun i=>rows.length-i.1) ⟨0,by omega,by simp⟩ (by simp only[lsT,List.take_zero,List.map_nil];exact fF) ?_;rintro⟨i,hi,hok⟩;simp only;have hlsl:=aZ8 hi;refine aB fun K hK=>?_;refine aB fun K hK=>Rg ?_;have F:=@List.length_map.{0,0};iterate 4 refine SF ?_
 refine T2 (hK _ _ _ ?_);clear hK K;refine aH (b:=decide ((i:Int)<rows.length)) rfl (fun hb=>?_) (fun hb=>?_)
 ·
  have hlt:i<rows.length:=by simpa using hb
  clear hb;obtain⟨r,hr⟩: ∃r,r=rows[i]:=⟨_,rfl⟩;have hrin:r∈rows:=by rw[hr];exact List.getElem_mem hlt
  have hrn:=hrs r hrin;have hnr:nth (rows.map CV.str) i= .str r:=by rw[bP hlt,hr]
  refine aK ?_;refine T0 (hK _ _ _ ?_);clear hK K;refine aB fun K hK=>?_;refine aN ?_;refine aB fun K hK=>Rg ?_;have F:=aI @Int.natCast_nonneg (aI @Int.ofNat_lt (aI hlt (aI hnr @List.length_map.{0,0})));iterate 4 refine SF ?_
  refine HS rfl rfl fun K' hK'=>T6 ?_;refine C2 (aV9 r 32 (by omega)) ?_;rintro u rfl;refine AX (hK' _ _ ?_);clear hK' K';refine SF ?_;refine T2 (hK _ _ _ ?_);clear hK K;refine R0 ?_;refine aB fun K hK=>?_;refine R0 ?_;refine aN ?_;refine gQ 8 0 9 1 rfl rfl rfl rfl ?_;refine bF (α:={k:Nat//k≤(aU 32 r).length∧aR5 r k}) (fun k=>(fin [(4,.c (.slc (rows.map .str))),(5,.own 100 i),(6,.c (.int .i64 i)),(7,.c (.slc ((aU 32 r).map .str))),(8,.own 248 k.1),(9,.c (.int .i64 k.1))],fob [(100,.row 71 1 ((lsT rows i).map lsC)),(248,.row 9 1 ((wsT r k.1).map .str))])) 300 (fun k=>(aU 32 r).length-k.1) ⟨0,by omega,fun p hp=>by simp at hp⟩ (by simp only[wsT,List.take_zero,List.map_nil];exact fF) ?_;rintro⟨k,hk,hwo⟩;simp only;have hwl2:=qU hk;have hsl:=eV 32 r;refine aB fun K hK=>?_;refine aB fun K hK=>Rg ?_;have F:=@List.length_map.{0,0};iterate 4 refine SF ?_
  refine T2 (hK _ _ _ ?_);clear hK K;refine aH (b:=decide ((k:Int)<(aU 32 r).length)) rfl (fun hb=>?_) (fun hb=>?_)
  ·
   have hkl:k<(aU 32 r).length:=by simpa using hb
   clear hb;obtain⟨p,hp⟩: ∃p,p=(aU 32 r)[k]:=⟨_,rfl⟩;have hpl:=nE 32 r p (by rw[hp];exact List.getElem_mem hkl);have hnp:nth ((aU 32 r).map CV.str) k= .str p:=by rw[bP hkl,hp]
   refine aK ?_;refine T0 (hK _ _ _ ?_);clear hK K;refine aB fun K hK=>?_;refine aN ?_;refine aB fun K hK=>Rg ?_;have F:=aI @Int.natCast_nonneg (aI @Int.ofNat_lt (aI hkl (aI hnp @List.length_map.{0,0})));iterate 4 refine SF ?_
   refine HS rfl rfl fun K' hK'=>T6 ?_;refine D1 (cM3 p (by omega)) ?_;rintro u v ⟨rfl,rfl⟩;refine AX (hK' _ _ ?_);clear hK' K';iterate 5 refine SF ?_
   refine T2 (hK _ _ _ ?_);clear hK K;refine aB fun K hK=>?_;refine R0 ?_;refine aH (b:=!(unW p).isSome) rfl (fun hb=>?_) (fun hb=>?_)
   · refine R0 ?_;refine aF (RT Tryz.results33 ?_);have hE:=hE2 (pI hrin (bX0 hkl (by rw[←hp];simpa using hb)));refine aR [] (.slc []) (.int .i64 2) ?_ ⟨by simp only[gZ,hE];rfl,by rw[hE]⟩;simp[HV.close,HV.closeL,CV.denil,CV.denilL,HV.norm,HV.toC,HV.toCL]
   refine aK ?_;refine T0 (hK _ _ _ ?_);clear hK K;refine Rg ?_;have F:=aI @List.length_append.{0} (aI @List.length_map.{0,0} hwl2);iterate 5 refine SF ?_
   refine T2 (hK _ _ _ ?_);clear hK K;refine aD (by kernel_rfl) ?_;refine TQ (fA k) ?_;refine⟨⟨k+1,hkl,aE4 hkl hwo (by rw[←hp];simpa using hb)⟩,aM (by omega) ?_ ?_,?_⟩
   · simp[aW,upd_at,fin_at,HV.men]
   · simp only[aR6 hkl,←hp,aX,List.map_append];exact⟨rfl,by omega,trivial,rfl,by omega,trivial,trivial⟩
   show(aU 32 r).length-(k+1)<(aU 32 r).length-k;omega
  refine bA (T3 ?_);clear hK K;refine AX (hK _ _ _ ?_);clear hK K;have hke:k=(aU 32 r).length:=by simp at hb;omega
  subst hke;have hul:=cH4 hwo;obtain⟨ws,hws⟩: ∃ws,ws=wsT r (aU 32 r).length:=⟨_,rfl⟩;rw[←hws]at hul hwl2⊢;rw[←hwl2];refine cR [248] (bE (fr2:=fin [(4,.c (.slc (rows.map .str))),(5,.own 100 i),(6,.c (.int .i64 i)),(8,.c (.slc (ws.map .str)))]) (ob2:=fob [(100,.row 71 1 ((lsT rows i).map lsC))]) (nx2:=400) (aM (by omega) (by simp[aW,dA,fin_at,finA_at,upd_at,fob_at,HV.close,HV.closeL,CV.denil,CV.denilL,denilL_str,HV.men,HV.menL,HV.norm,HV.toC,HV.toCL]) (by simp[aX,dL,fob_at,upd_at,none0_at,bT,HO.close,HV.close,HV.closeL,HO.men,HV.men,HV.menL,HV.norm,HV.toC,HV.toCL])) ?_);refine Rg ?_;have F:=aI @List.length_append.{0} (aI @List.length_map.{0,0} hlsl);iterate 5 refine SF ?_
  refine T2 (hK _ _ _ ?_);clear hK K;refine aD (by kernel_rfl) ?_;refine TQ (fA i) ?_;have hok1: ∀x∈rows.take (i+1),(unL x).isSome=true:=by
   intro x hx;rw[List.take_succ_eq_append_getElem hlt,List.mem_append,List.mem_singleton]at hx;rcases hx with hx|rfl
   · exact hok x hx
   rw[←hr,hul];rfl
  refine⟨⟨i+1,hlt,hok1⟩,aM (by omega) ?_ ?_,?_⟩
  · simp[aW,upd_at,fin_at,HV.men]
  · simp only[bW9 hlt,←hr,hul,aX,List.map_append,Option.getD_some];exact⟨rfl,by omega,trivial,trivial⟩
  show rows.length-(i+1)<rows.length-i;omega
 refine bA (T3 ?_);clear hK K;refine AX (hK _ _ _ ?_);clear hK K;refine aB fun K hK=>?_;have hie:i=rows.length:=by simp at hb;omega
 subst hie;have hml2:=cH5 hok;have hlens:=bX1 (rows:=rows) (n:=2^39) (fun r hr=>by have:=hrs r hr;omega);obtain⟨ls,hls⟩: ∃ls,ls=lsT rows rows.length:=⟨_,rfl⟩;rw[←hls]at hml2 hlsl hlens⊢;rw[hrows]at hml2;obtain⟨hE0,hEn⟩:=bW8 hle hml2;rw[←hm]at hE0 hEn;rw[←hlsl];refine cR [100] (bE (fr2:=fin [(5,.c (.slc (ls.map lsC)))]) (ob2:=fob []) (nx2:=300) (aM (by omega) (by simp[aW,dA,fin_at,finA_at,upd_at,fob_at,HV.close,HV.closeL,CV.denil,CV.denilL,dE,HV.men,HV.menL,HV.norm,HV.toC,HV.toCL]) (by simp[aX,dL,fob_at,upd_at,none0_at,bT,HO.close,HV.close,HV.closeL,HO.men,HV.men,HV.menL,HV.norm,HV.toC,HV.toCL])) ?_);refine aB fun K hK=>Rg ?_;have F:=@dE;refine SF ?_;refine HS rfl rfl fun K' hK'=>T6 ?_;refine D1 (bH8 ls (by omega) (fun l hl=>by have:=hlens l hl;omega)) ?_;rintro u v ⟨rfl,rfl⟩;refine AX (hK' _ _ ?_);clear hK' K';iterate 5 refine SF ?_
 refine T2 (hK _ _ _ ?_);clear hK K;refine R0 ?_;refine aH (b:=kY ls !=0) rfl (fun hb=>?_) (fun hb=>?_)
 · refine R0 ?_;refine aF (RT Tryz.results33 ?_);have hE:=hEn (by simpa using hb);refine aR [] (.slc []) (.int .i64 2) ?_ ⟨by simp only[gZ,hE];rfl,by rw[hE]⟩;simp[HV.close,HV.closeL,CV.denil,CV.denilL,HV.norm,HV.toC,HV.toCL]
 refine aK ?_;refine T0 (hK _ _ _ ?_);clear hK K;refine R0 ?_;refine aF (RT Tryz.results33 ?_);obtain⟨hE,hO⟩:=hE0 (by simpa using hb);refine aR [] (.slc (ls.map lsC)) (.int .i64 0) ?_ ⟨by rw[hO],by rw[hE]⟩;simp[HV.close,HV.closeL,CV.denil,CV.denilL,HV.norm,HV.toC,HV.toCL,dE]
end Go.Proofs.YthedbjfipmkpiaaGreatDoor
namespace Go.Pl
open Go Go.Hl
variable {w:List aG}
theorem cM5 {x:Ln}(hw:w.length≤120)(h:jA w=some x):LnR x∧x.d=[]:=by
 unfold jA at h;split at h
 ·
  rename_i n f hs;have hr:=aL6 hs;cases hk:gM (wd w 0)with
  |none=>rw[hk]at h;cases h
  |some k=>
   rw[hk]at h;obtain rfl:=Option.some.inj h;have hk2:=nG.1 hk;refine⟨⟨⟨hk2.1,hk2.2.1⟩,hr.2 n (by simp),fun m hm=>hr.2 m (by simp[hm]),?_⟩,rfl⟩;have h1:=hr.1;simp only[List.length_cons,List.length_drop]at h1⊢;omega
 · cases h
structure LsR (i:Nat)(l:List Ln):Prop where
 len:l.length≤i
 d: ∀x∈l,x.d.length≤i
 r: ∀x∈l,LnR x
variable {i:Nat}{l:List Ln}
theorem cM6 {ls:List Ln}(hw:w.length≤120)(h:iA ls w=some l)(hl:LsR i ls):LsR (i+1) l:=by
 unfold iA at h;split at h
 · rename_i hdc;have h1:=aS9 h hl.len hl.d;have h2:=bH0 hw (show dK ls w=some l by unfold dK;rw[if_pos hdc];exact h) hl.r;exact⟨by have:=h1.1;omega,h1.2,h2⟩
 ·
  cases hx:jA w with
  |none=>rw[hx]at h;cases h
  |some x=>
   rw[hx]at h;obtain rfl:=Option.some.inj h;have hr:=cM5 hw hx;refine⟨by have:=hl.len;simp;omega,fun y hy=>?_,fun y hy=>?_⟩
   ·
    rcases List.mem_append.1 hy with hy|hy
    · have:=hl.d y hy;omega
    · rw[List.mem_singleton.1 hy,hr.2];simp
   ·
    rcases List.mem_append.1 hy with hy|hy
    · exact hl.r y hy
    · rw[List.mem_singleton.1 hy];exact hr.1
theorem bR1 {ws:List (List aG)}(hi:i<ws.length)(h:RunD iA ws (i+1) l): ∃m,RunD iA ws i m∧iA m ws[i]=some l:=by
 unfold RunD at h⊢;rw[List.take_succ_eq_append_getElem hi,List.foldlM_append]at h;cases hm:(ws.take i).foldlM iA []with
 |none=>rw[hm]at h;cases h
 |some m=>
  rw[hm]at h;refine⟨m,rfl,?_⟩;have h':[ws[i]].foldlM iA m=some l:=h;rw[List.foldlM_cons]at h';cases hs:iA m ws[i]with
  |none=>rw[hs]at h';cases h'
  |some z=>rw[hs]at h';exact h'
theorem bB9 {ws:List (List aG)}(hw: ∀w∈ws,w.length≤120): ∀{i:Nat} {l:List Ln},i≤ws.length→RunD iA ws i l→LsR i l
 |0,l,_,h=>by
  obtain rfl:=Option.some.inj (show some ([]:List Ln)=some l from h);exact⟨by simp,by simp,by simp⟩
 |i+1,l,hi,h=>by
  obtain⟨m,h1,h2⟩:=bR1 hi h;exact cM6 (hw _ (List.getElem_mem _)) h2 (bB9 hw (i:=i) (by omega) h1)
theorem bC0 {ls:List (List aG)}(h2:2≤ls.length)(h7:(wd' ls 0).length=7)(h4:(wd' ls 1).length=4):tG ls=((ls.drop 2).foldlM iA []).map fun l=>{headF ls with l:=l}:=by
 unfold tG;rw[if_neg (by omega)]
theorem rL {ls:List (List aG)}(h:ls.length<2∨(wd' ls 0).length≠7∨(wd' ls 1).length≠4):tG ls=none:=by
 unfold tG;rw[if_pos h]
theorem cE7 (w:aG):R40 ((cP w).getD 0):=by
 cases h:cP w with
 |none=>exact⟨by simp,by simp⟩
 |some n=>exact⟨(gF h).1,by have:=(gF h).2;simp;omega⟩
theorem cM7 {ls:List (List aG)}{l:List Ln}(hi:i≤1000)(h:LsR i l):DvR {headF ls with l:=l}:=
 ⟨cE7 _,cE7 _,fun x hx=>⟨h.r x hx,by have:=h.d x hx;omega⟩,by have:=h.len;show l.length≤1000;omega⟩
end Go.Pl
