/- Plain Lean: lines of a derivation of which one is changed, left out or doubled are still encoded (31.5). By an AI agent. -/
import Derived.Test.YthedbjfipmkpiaaGreatDoorHdY9
set_option maxRecDepth 10000
set_option maxHeartbeats 16000000
set_option linter.unusedSimpArgs false
set_option linter.unusedVariables false
set_option linter.defProp false
namespace Go.Proofs.YthedbjfipmkpiaaGreatDoor
open Go Go.Hl Go.Pl
variable {w:List aK}{l:List Ln}
theorem dA4 {x:Ln}(hw:wd w 0=wDoc):nI (l++[x]) w=if x.k=1∧w.length=2 then(eZ (wd w 1)).map fun d=>l++[mD x d]else none:=by
 rw[←xO hw];unfold dW;rw[B1 hw]
abbrev rlH (l:List Ln)(x:Ln)(N:Nat):HO:= .hrow 41 4 ((l.map fun z=>HV.c z.cv)++[rdE x N])
def RdP (d:Dv)(l:List Ln)(x:Ln)(w:List aK)(r:HV)(os':List HO):Prop:=
 ∃x':Ln,r= .tup [rdV d 0 (l.length+1),.c (.bool (nI (l++[x]) w).isSome)]∧os'=[rlH l x' 1,.row 44 32 (x'.d.map dg)]∧ ∀M,nI (l++[x]) w=some M→M=l++[x']
theorem dM2 (l:List Ln)(x:Ln):lst [rlH l x 1,.row 44 32 (x.d.map dg)]=fob [(0,rlH l x 1),(1,.row 44 32 (x.d.map dg))]:=by
 funext i
 match i with
 |0=>rfl
 |1=>rfl
 |i+2=>simp[lst,fob,cZ,upd]
theorem oJ {ob:Ob}{r:HV}{d:Dv}{x x':Ln}{b:Bool}(hr:r= .tup [rdV d 0 (l.length+1),.c (.bool b)])(J:ob 0=some (rlH l x' 1))(U:ob 1=some (.row 44 32 (x'.d.map dg)))(hb:(nI (l++[x]) w).isSome=b)(hx: ∀M,nI (l++[x]) w=some M→M=l++[x']):
  gR 2 r ob (fun r ob'=> ∃I,ob'=lst I∧(2≤I.length∧I.length≤2+4)∧RdP d l x w r I):=by
 subst hr;refine eM [] [] (.tup [rdV d 0 (l.length+1),.c (.bool b)]) [rlH l x' 1,.row 44 32 (x'.d.map dg)] ?_ (by simp[rdV]) ⟨⟨by simp[bV,rdE],by simp,_,(by simpa[tau]using J),?_⟩,⟨by simp,by simp,_,(by simpa[tau]using U),rfl⟩,trivial⟩ rfl (by simp) (by simp) (by simp) ⟨x',by rw[hb],rfl,hx⟩
 · simp[rdV,tau,Qs.denil,Og.denil,dg_denil]
 simp[rlH,jV,jG,nU,mG,kH,rdE,denilL_int,tau]
theorem cR1 (w:List aK)(ar:w.length≤120)(h0:0<w.length)(ao:wd w 0=wDoc)(d:Dv)(l:List Ln)(x:Ln)(hl:l.length<2^38)(au:x.d.length<2^38):HGe Tryz.prog 69 [rdV d 0 (l.length+1),.c (.slc (w.map .str))] [rlH l x 1,.row 44 32 (x.d.map dg)] (RdP d l x w):=by
 refine bO (args:=[rdV d 0 (l.length+1),.c (.slc (w.map .str))]) Tryz.func69 rfl (by kernel_rfl) (dQ rfl (by simp[cV,bV,rdE,rlH]) (by simp[rdV])) (C7 rfl) ?_;show Hw _ _ 2 _ _ _ (lst _) 2;rw[dM2];have aq:(wd w 0==[100,111,99])=true:=by rw[ao];decide
 have hq:=dA4 (l:=l) (x:=x) ao;have ag: ∀{ob:Ob} {r:HV},nI (l++[x]) w=none→r= .tup [rdV d 0 (l.length+1),.c (.bool false)]→ob 0=some (rlH l x 1)→ob 1=some (.row 44 32 (x.d.map dg))→gR 2 r ob (fun r ob'=> ∃ai,ob'=lst ai∧(2≤ai.length∧ai.length≤2+4)∧RdP d l x w r ai):=fun hn hr h0 h1=>oJ hr h0 h1 (by rw[hn];rfl) (fun M hM=>by rw[hn]at hM;cases hM);refine R0 ?_ (e:=fun _ h_=>by simp only[↓sP,sA,tyS,simprocAttr,rdV];exact AX h_);refine aC fun K J=>?_;have F:=@A0.{0,0};refine RF ?_;refine aJ (b:=decide ((w.length:Int)<2)) rfl (fun hb=>?_) (fun hb=>?_)
 ·
  have af:nI (l++[x]) w=none:=by rw[hq,A7];have:=F9 hb;omega
  clear hb;refine R0 ?_ (e:=fun _ h_=>by simp only[↓sP,sA,tyS,simprocAttr,rdV];exact AX h_);refine aE (RT Tryz.results69 ?_);refine⟨rfl,?_⟩;first
  |exact ag af rfl rfl rfl
  |(refine oJ (x':=mD x dd) (b:=true) rfl ?_ ?_ (by rw[ae];rfl) (fun M hM=>by rw[ae]at hM;exact(F6 hM).symm)<;>simp[rlH,rdE,mD])
 have h2:2≤w.length:=by have:=G7 hb;omega
 clear hb;refine aG ?_;refine T0 (J _ _ _ ?_);clear J K;refine aC fun K J=>?_;refine RS ?_;iterate 4 refine S0 ?_ (e:=fun _ h_=>by simp only[sH,↓sP,sA,tyS,simprocAttr,A0,cY h0,E7,aq];exact AX h_)
 refine RE ?_;refine CT rfl ?_;refine aC fun K J=>Rg ?_;iterate 3 refine S0 ?_ (e:=fun _ h_=>by simp only[sH,↓sP,sA,tyS,simprocAttr,A0,cY (show 1<w.length by omega),K0];exact AX h_)
 refine HS rfl rfl fun U I=>?_;simp only[sH,↓sP,sA,tyS,simprocAttr,A0,cY (show 1<w.length by omega),K0];refine D1 (mL (wd w 1)) ?_;rintro u v ⟨rfl,rfl⟩;refine AX (I _ _ ?_);clear I U;iterate 6 refine S0 ?_ (e:=fun _ h_=>by simp only[sH,↓sP,sA,tyS,simprocAttr,A0,cY (show 1<w.length by omega),K0];exact AX h_)
 refine T2 (J _ _ _ ?_);clear J K;refine aC fun K J=>aY (by kernel_rfl) ?_;simp only[sR,simprocAttr];iterate 2 refine SG0 ?_ (e:=fun _ h_=>by simp only[sH,↓sP,sA,tyS,simprocAttr,rdV,A3,A0,A8,C0,F0,(show IntKind.i64.wrap (((l.length+1:Nat):Int)-1)=(l.length:Int)from by rw[B0 _ (by omega)];omega)];exact AX h_)
 refine aU (g:=none) rfl rfl fun U I=>?_;simp only[sN,↓hopH.eq_def,sH,↓sP,sA,tyS,simprocAttr,rdV,A3,A0,A8,C0,F0,(show IntKind.i64.wrap (((l.length+1:Nat):Int)-1)=(l.length:Int)from by rw[B0 _ (by omega)];omega)];refine AX (I _ _ ?_);clear I U;iterate 2 refine SG0 ?_ (e:=fun _ h_=>by simp only[sH,↓sP,sA,tyS,simprocAttr,rdV,A3,A0,A8,C0,F0,(show IntKind.i64.wrap (((l.length+1:Nat):Int)-1)=(l.length:Int)from by rw[B0 _ (by omega)];omega)];exact AX h_)
 refine T2 (J _ _ _ ?_);clear J K;refine aC fun K J=>?_;by_cases ab:(eZ (wd w 1)).isSome=true
 ·
  by_cases aj:w.length=2
  ·
   by_cases ah:x.k=1
   ·
    have aa:((w.length:Int) !=2)=false:=by rw[aj];rfl
    have ad:(x.k !=1)=false:=by rw[ah];rfl
    refine aC fun K J=>aY (by kernel_rfl) ?_;simp only[sR,simprocAttr];iterate 15 refine SG0 ?_ (e:=fun _ h_=>by simp only[sH,↓sP,sA,tyS,simprocAttr,rdV,rdE,rlH,ab,F1,aa,ad,(show decide ((l.length:Int)<0)=false from decide_eq_false (by omega)),cB,List.length_append,List.length_map,List.length_cons,List.length_nil,Nat.zero_add,Int.natCast_nonneg,Int.ofNat_lt,Nat.lt_succ_self,Int.toNat_natCast];exact AX h_)
    refine aU (g:=some (46,false)) rfl rfl fun U I=>?_;simp only[sN,↓hopH.eq_def,sH,↓sP,sA,tyS,simprocAttr,rdV,rdE,rlH,ab,F1,aa,ad,(show decide ((l.length:Int)<0)=false from decide_eq_false (by omega)),cB,List.length_append,List.length_map,List.length_cons,List.length_nil,Nat.zero_add,Int.natCast_nonneg,Int.ofNat_lt,Nat.lt_succ_self,Int.toNat_natCast];refine AX (I _ _ ?_);clear I U;refine aU (g:=some (46,false)) rfl rfl fun U I=>?_;simp only[sN,↓hopH.eq_def,sH,↓sP,sA,tyS,simprocAttr,rdV,rdE,rlH,ab,F1,aa,ad,(show decide ((l.length:Int)<0)=false from decide_eq_false (by omega)),cB,List.length_append,List.length_map,List.length_cons,List.length_nil,Nat.zero_add,Int.natCast_nonneg,Int.ofNat_lt,Nat.lt_succ_self,Int.toNat_natCast];refine AX (I _ _ ?_);clear I U;refine aU (g:=some (46,false)) rfl rfl fun U I=>?_;simp only[sN,↓hopH.eq_def,sH,↓sP,sA,tyS,simprocAttr,rdV,rdE,rlH,ab,F1,aa,ad,(show decide ((l.length:Int)<0)=false from decide_eq_false (by omega)),cB,List.length_append,List.length_map,List.length_cons,List.length_nil,Nat.zero_add,Int.natCast_nonneg,Int.ofNat_lt,Nat.lt_succ_self,Int.toNat_natCast];refine AX (I _ _ ?_);clear I U;iterate 2 refine SG0 ?_ (e:=fun _ h_=>by simp only[sH,↓sP,sA,tyS,simprocAttr,rdV,rdE,rlH,ab,F1,aa,ad,(show decide ((l.length:Int)<0)=false from decide_eq_false (by omega)),cB,List.length_append,List.length_map,List.length_cons,List.length_nil,Nat.zero_add,Int.natCast_nonneg,Int.ofNat_lt,Nat.lt_succ_self,Int.toNat_natCast];exact AX h_)
    refine T2 (J _ _ _ ?_);clear J K;refine CF rfl ?_;obtain⟨dd,an⟩:=G0.1 ab;have ae:nI (l++[x]) w=some (l++[mD x dd]):=by rw[hq,B1 ⟨ah,aj⟩,an];rfl
    rw[an];refine aG ?_;refine T0 (J _ _ _ ?_);clear J K;refine aC fun K J=>dT mixed [(0,[],[]),(1,[],[]),(2,[],[]),(3,[],[]),(4,[],[]),(5,[],[]),(6,[],[]),(7,[],[]),(8,[],[]),(9,[],[]),(10,[],[]),(11,[],[0,1,2]),(12,[],[]),(13,[],[]),(14,[],[])] [0,1,0,0,8,0,56,120,248,0,512,2040,4095,8191,16383] (by kernel_rfl) (by kernel_rfl) (by kernel_rfl) (by kernel_rfl) rfl (by kernel_rfl) ?_;iterate 6 refine WG0 ?_ (e:=fun _ h_=>by simp only[sH,↓sP,sA,tyS,simprocAttr,rdV,rdE,cB,iW,A3,A0,A8,C0,F0,A1,A4,J6,A6,E9];exact AX h_)
    refine bI (g:=none) rfl rfl fun U I=>?_;simp only[sN,↓hopH.eq_def,sH,↓sP,sA,tyS,simprocAttr,rdV,rdE,cB,iW,A3,A0,A8,C0,F0,A1,A4,J6,A6,E9];refine AX (I _ _ ?_);clear I U;refine bI (g:=none) rfl rfl fun U I=>?_;simp only[sN,↓hopH.eq_def,sH,↓sP,sA,tyS,simprocAttr,rdV,rdE,cB,iW,A3,A0,A8,C0,F0,A1,A4,J6,A6,E9];refine AX (I _ _ ?_);clear I U;refine bI (g:=none) rfl rfl fun U I=>?_;simp only[sN,↓hopH.eq_def,sH,↓sP,sA,tyS,simprocAttr,rdV,rdE,cB,iW,A3,A0,A8,C0,F0,A1,A4,J6,A6,E9];refine AX (I _ _ ?_);clear I U;iterate 3 refine WG0 ?_ (e:=fun _ h_=>by simp only[sH,↓sP,sA,tyS,simprocAttr,rdV,rdE,cB,iW,A3,A0,A8,C0,F0,A1,A4,J6,A6,E9];exact AX h_)
    refine bI (g:=none) rfl rfl fun U I=>?_;simp only[sN,↓hopH.eq_def,sH,↓sP,sA,tyS,simprocAttr,rdV,rdE,cB,iW,A3,A0,A8,C0,F0,A1,A4,J6,A6,E9];refine AX (I _ _ ?_);clear I U;refine bI (g:=none) rfl rfl fun U I=>?_;simp only[sN,↓hopH.eq_def,sH,↓sP,sA,tyS,simprocAttr,rdV,rdE,cB,iW,A3,A0,A8,C0,F0,A1,A4,J6,A6,E9];refine AX (I _ _ ?_);clear I U;refine bI (g:=none) rfl rfl fun U I=>?_;simp only[sN,↓hopH.eq_def,sH,↓sP,sA,tyS,simprocAttr,rdV,rdE,cB,iW,A3,A0,A8,C0,F0,A1,A4,J6,A6,E9];refine AX (I _ _ ?_);clear I U;refine T2 (J _ _ _ ?_);clear J K;refine R0 ?_ (e:=fun _ h_=>by simp only[↓sP,sA,tyS,simprocAttr,rdV];exact AX h_);refine aE (RT Tryz.results69 ?_);refine⟨rfl,?_⟩;first
    |exact ag af rfl rfl rfl
    |(refine oJ (x':=mD x dd) (b:=true) rfl ?_ ?_ (by rw[ae];rfl) (fun M hM=>by rw[ae]at hM;exact(F6 hM).symm)<;>simp[rlH,rdE,mD])
   have aa:((w.length:Int) !=2)=false:=by rw[aj];rfl
   have ad:(x.k !=1)=true:=R9.2 ah;have af:nI (l++[x]) w=none:=by rw[hq,A7 (fun h=>ah h.1)]
   refine aC fun K J=>aY (by kernel_rfl) ?_;simp only[sR,simprocAttr];iterate 15 refine SG0 ?_ (e:=fun _ h_=>by simp only[sH,↓sP,sA,tyS,simprocAttr,rdV,rdE,rlH,ab,F1,aa,ad,(show decide ((l.length:Int)<0)=false from decide_eq_false (by omega)),cB,List.length_append,List.length_map,List.length_cons,List.length_nil,Nat.zero_add,Int.natCast_nonneg,Int.ofNat_lt,Nat.lt_succ_self,Int.toNat_natCast];exact AX h_)
   refine aU (g:=some (46,false)) rfl rfl fun U I=>?_;simp only[sN,↓hopH.eq_def,sH,↓sP,sA,tyS,simprocAttr,rdV,rdE,rlH,ab,F1,aa,ad,(show decide ((l.length:Int)<0)=false from decide_eq_false (by omega)),cB,List.length_append,List.length_map,List.length_cons,List.length_nil,Nat.zero_add,Int.natCast_nonneg,Int.ofNat_lt,Nat.lt_succ_self,Int.toNat_natCast];refine AX (I _ _ ?_);clear I U;refine aU (g:=some (46,false)) rfl rfl fun U I=>?_;simp only[sN,↓hopH.eq_def,sH,↓sP,sA,tyS,simprocAttr,rdV,rdE,rlH,ab,F1,aa,ad,(show decide ((l.length:Int)<0)=false from decide_eq_false (by omega)),cB,List.length_append,List.length_map,List.length_cons,List.length_nil,Nat.zero_add,Int.natCast_nonneg,Int.ofNat_lt,Nat.lt_succ_self,Int.toNat_natCast];refine AX (I _ _ ?_);clear I U;refine aU (g:=some (46,false)) rfl rfl fun U I=>?_;simp only[sN,↓hopH.eq_def,sH,↓sP,sA,tyS,simprocAttr,rdV,rdE,rlH,ab,F1,aa,ad,(show decide ((l.length:Int)<0)=false from decide_eq_false (by omega)),cB,List.length_append,List.length_map,List.length_cons,List.length_nil,Nat.zero_add,Int.natCast_nonneg,Int.ofNat_lt,Nat.lt_succ_self,Int.toNat_natCast];refine AX (I _ _ ?_);clear I U;iterate 2 refine SG0 ?_ (e:=fun _ h_=>by simp only[sH,↓sP,sA,tyS,simprocAttr,rdV,rdE,rlH,ab,F1,aa,ad,(show decide ((l.length:Int)<0)=false from decide_eq_false (by omega)),cB,List.length_append,List.length_map,List.length_cons,List.length_nil,Nat.zero_add,Int.natCast_nonneg,Int.ofNat_lt,Nat.lt_succ_self,Int.toNat_natCast];exact AX h_)
   refine T2 (J _ _ _ ?_);clear J K;refine CT rfl ?_;refine R0 ?_ (e:=fun _ h_=>by simp only[↓sP,sA,tyS,simprocAttr,rdV];exact AX h_);refine aE (RT Tryz.results69 ?_);refine⟨rfl,?_⟩;first
   |exact ag af rfl rfl rfl
   |(refine oJ (x':=mD x dd) (b:=true) rfl ?_ ?_ (by rw[ae];rfl) (fun M hM=>by rw[ae]at hM;exact(F6 hM).symm)<;>simp[rlH,rdE,mD])
  have aa:((w.length:Int) !=2)=true:=R9.2 (by omega);have af:nI (l++[x]) w=none:=by rw[hq,A7 (fun h=>aj h.2)]
  refine aC fun K J=>aY (by kernel_rfl) ?_;simp only[sR,simprocAttr];iterate 20 refine SG0 ?_ (e:=fun _ h_=>by simp only[sH,↓sP,sA,tyS,simprocAttr,ab,F1,aa,A0];exact AX h_)
  refine T2 (J _ _ _ ?_);clear J K;refine CT rfl ?_;refine R0 ?_ (e:=fun _ h_=>by simp only[↓sP,sA,tyS,simprocAttr,rdV];exact AX h_);refine aE (RT Tryz.results69 ?_);refine⟨rfl,?_⟩;first
  |exact ag af rfl rfl rfl
  |(refine oJ (x':=mD x dd) (b:=true) rfl ?_ ?_ (by rw[ae];rfl) (fun M hM=>by rw[ae]at hM;exact(F6 hM).symm)<;>simp[rlH,rdE,mD])
 have ak:(eZ (wd w 1)).isSome=false:=by simpa using ab
 have af:nI (l++[x]) w=none:=by
  rw[hq];split
  ·
   cases h:eZ (wd w 1)with
   |none=>rfl
   |some z=>rw[h]at ak;cases ak
  rfl
 refine aC fun K J=>aY (by kernel_rfl) ?_;simp only[sR,simprocAttr];iterate 20 refine SG0 ?_ (e:=fun _ h_=>by simp only[sH,↓sP,sA,tyS,simprocAttr,ak,F7];exact AX h_)
 refine T2 (J _ _ _ ?_);clear J K;refine CT rfl ?_;refine R0 ?_ (e:=fun _ h_=>by simp only[↓sP,sA,tyS,simprocAttr,rdV];exact AX h_);refine aE (RT Tryz.results69 ?_);refine⟨rfl,?_⟩;first
 |exact ag af rfl rfl rfl
 |(refine oJ (x':=mD x dd) (b:=true) rfl ?_ ?_ (by rw[ae];rfl) (fun M hM=>by rw[ae]at hM;exact(F6 hM).symm)<;>simp[rlH,rdE,mD])
theorem cC4 (w:List aK)(ai:w.length≤120)(h0:0<w.length)(ae:wd w 0=wDoc)(d:Dv):HGe Tryz.prog 69 [rdV d 0 0,.c (.slc (w.map .str))] [.hrow 41 4 (([]:List Ln).map fun z=>HV.c z.cv)] (fun r I=>r= .tup [rdV d 0 0,.c (.bool false)]∧I=[.hrow 41 4 (([]:List Ln).map fun z=>HV.c z.cv)]):=by
 refine bO (args:=[rdV d 0 0,.c (.slc (w.map .str))]) Tryz.func69 rfl (by kernel_rfl) (dQ rfl (by simp[cV]) (by simp[rdV])) (C7 rfl) ?_;show Hw _ _ 1 _ _ _ (lst _) 1;rw[dC1];have ah:(wd w 0==[100,111,99])=true:=by rw[ae];decide
 have aa: ∀{ob:Ob} {r:HV},r= .tup [rdV d 0 0,.c (.bool false)]→ob 0=some (.hrow 41 4 (([]:List Ln).map fun z=>HV.c z.cv))→gR 1 r ob (fun r ob'=> ∃I,ob'=lst I∧(1≤I.length∧I.length≤1+4)∧(r= .tup [rdV d 0 0,.c (.bool false)]∧I=[.hrow 41 4 (([]:List Ln).map fun z=>HV.c z.cv)])):=fun hr h0=>by
  subst hr;refine eM [] [] (.tup [rdV d 0 0,.c (.bool false)]) [.hrow 41 4 (([]:List Ln).map fun z=>HV.c z.cv)] ?_ (by simp[rdV]) ⟨⟨by simp,by simp,_,(by simpa[tau]using h0),?_⟩,trivial⟩ rfl (by simp) (by simp) (by simp) ⟨rfl,rfl⟩
  · simp[rdV,tau,Qs.denil,Og.denil,dg_denil]
  simp[nU]
 refine R0 ?_ (e:=fun _ h_=>by simp only[↓sP,sA,tyS,simprocAttr,rdV];exact AX h_);refine aC fun K U=>?_;have F:=@A0.{0,0};refine RF ?_;refine aJ (b:=decide ((w.length:Int)<2)) rfl (fun hb=>?_) (fun hb=>?_)
 · refine R0 ?_ (e:=fun _ h_=>by simp only[↓sP,sA,tyS,simprocAttr,rdV];exact AX h_);refine aE (RT Tryz.results69 ?_);refine⟨rfl,?_⟩;exact aa rfl rfl
 have h2:2≤w.length:=by have:=G7 hb;omega
 clear hb;refine aG ?_;refine T0 (U _ _ _ ?_);clear U K;refine aC fun K U=>?_;refine RS ?_;iterate 4 refine S0 ?_ (e:=fun _ h_=>by simp only[sH,↓sP,sA,tyS,simprocAttr,A0,cY h0,E7,ah];exact AX h_)
 refine RE ?_;refine CT rfl ?_;refine aC fun K U=>Rg ?_;iterate 3 refine S0 ?_ (e:=fun _ h_=>by simp only[sH,↓sP,sA,tyS,simprocAttr,A0,cY (show 1<w.length by omega),K0];exact AX h_)
 refine HS rfl rfl fun K' J=>?_;simp only[sH,↓sP,sA,tyS,simprocAttr,A0,cY (show 1<w.length by omega),K0];refine D1 (mL (wd w 1)) ?_;rintro u v ⟨rfl,rfl⟩;refine AX (J _ _ ?_);clear J K';iterate 6 refine S0 ?_ (e:=fun _ h_=>by simp only[sH,↓sP,sA,tyS,simprocAttr,A0,cY (show 1<w.length by omega),K0];exact AX h_)
 refine T2 (U _ _ _ ?_);clear U K;refine aC fun K U=>aY (by kernel_rfl) ?_;simp only[sR,simprocAttr];iterate 2 refine SG0 ?_ (e:=fun _ h_=>by simp only[sH,↓sP,sA,tyS,simprocAttr,rdV,C0,F2,(show IntKind.i64.wrap (((0:Nat):Int)-1)= -1 from rfl),(show IntKind.i64.wrap (-1)= -1 from rfl)];exact AX h_)
 refine aU (g:=none) rfl rfl fun K' J=>?_;simp only[sN,↓hopH.eq_def,sH,↓sP,sA,tyS,simprocAttr,rdV,C0,F2,(show IntKind.i64.wrap (((0:Nat):Int)-1)= -1 from rfl),(show IntKind.i64.wrap (-1)= -1 from rfl)];refine AX (J _ _ ?_);clear J K';iterate 2 refine SG0 ?_ (e:=fun _ h_=>by simp only[sH,↓sP,sA,tyS,simprocAttr,rdV,C0,F2,(show IntKind.i64.wrap (((0:Nat):Int)-1)= -1 from rfl),(show IntKind.i64.wrap (-1)= -1 from rfl)];exact AX h_)
 refine T2 (U _ _ _ ?_);clear U K;refine aC fun K U=>?_;by_cases ad:(eZ (wd w 1)).isSome=true
 ·
  by_cases af:w.length=2
  ·
   have ab:((w.length:Int) !=2)=false:=by rw[af];rfl
   refine RS ?_;iterate 20 refine S0 ?_ (e:=fun _ h_=>by simp only[sH,↓sP,sA,tyS,simprocAttr,ad,F1,ab,A0,(show decide ((-1:Int)<0)=true from rfl),(show((-1:Int)<0)=True from by simp),(show IntKind.i64.wrap (-1)= -1 from rfl),↓reduceIte];exact AX h_)
   refine RE ?_;refine CT rfl ?_;refine R0 ?_ (e:=fun _ h_=>by simp only[↓sP,sA,tyS,simprocAttr,rdV];exact AX h_);refine aE (RT Tryz.results69 ?_);refine⟨rfl,?_⟩;exact aa rfl rfl
  have ab:((w.length:Int) !=2)=true:=R9.2 (by omega);refine RS ?_;iterate 20 refine S0 ?_ (e:=fun _ h_=>by simp only[sH,↓sP,sA,tyS,simprocAttr,ad,F1,ab,A0];exact AX h_)
  refine RE ?_;refine CT rfl ?_;refine R0 ?_ (e:=fun _ h_=>by simp only[↓sP,sA,tyS,simprocAttr,rdV];exact AX h_);refine aE (RT Tryz.results69 ?_);refine⟨rfl,?_⟩;exact aa rfl rfl
 have ag:(eZ (wd w 1)).isSome=false:=by simpa using ad
 refine RS ?_;iterate 20 refine S0 ?_ (e:=fun _ h_=>by simp only[sH,↓sP,sA,tyS,simprocAttr,ag,F7];exact AX h_)
 refine RE ?_;refine CT rfl ?_;refine R0 ?_ (e:=fun _ h_=>by simp only[↓sP,sA,tyS,simprocAttr,rdV];exact AX h_);refine aE (RT Tryz.results69 ?_);refine⟨rfl,?_⟩;exact aa rfl rfl
end Go.Proofs.YthedbjfipmkpiaaGreatDoor
namespace Go.Pl
open Go Go.Hl
variable {w:List aK}
theorem dA5 {x:Ln}(hw:w.length≤120)(h:kG w=some x):LnR x∧x.d=[]:=by
 unfold kG at h;split at h
 ·
  rename_i n f hs;have J:=aU7 hs;cases U:iS (wd w 0)with
  |none=>rw[U]at h;cases h
  |some k=>
   rw[U]at h;obtain rfl:=F6 h;have I:=pB.1 U;refine⟨⟨⟨I.1,I.2.1⟩,J.2 n (by simp),fun m hm=>J.2 m (by simp[hm]),?_⟩,rfl⟩;have h1:=J.1;simp only[A8,G8]at h1⊢;omega
 · cases h
structure LsR (i:Nat)(l:List Ln):Prop where
 len:l.length≤i
 d: ∀x∈l,x.d.length≤i
 r: ∀x∈l,LnR x
variable {i:Nat}{l:List Ln}
theorem dA6 {ls:List Ln}(hw:w.length≤120)(h:jF ls w=some l)(hl:LsR i ls):LsR (i+1) l:=by
 unfold jF at h;split at h
 · rename_i J;have U:=bC6 h hl.len hl.d;have h2:=bS2 hw (show dW ls w=some l by unfold dW;rw[B1 J];exact h) hl.r;exact⟨by have:=U.1;omega,U.2,h2⟩
 ·
  cases hx:kG w with
  |none=>rw[hx]at h;cases h
  |some x=>
   rw[hx]at h;obtain rfl:=F6 h;have hr:=dA5 hw hx;refine⟨by have:=hl.len;simp;omega,fun y I=>?_,fun y I=>?_⟩
   ·
    rcases D6.1 I with I|I
    · have:=hl.d y I;omega
    · rw[E5.1 I,hr.2];simp
   ·
    rcases D6.1 I with I|I
    · exact hl.r y I
    · rw[E5.1 I];exact hr.1
theorem cC5 {ws:List (List aK)}(hi:i<ws.length)(h:RunD jF ws (i+1) l): ∃m,RunD jF ws i m∧jF m ws[i]=some l:=by
 unfold RunD at h⊢;rw[A5 hi,S2]at h;cases hm:(ws.take i).foldlM jF []with
 |none=>rw[hm]at h;cases h
 |some m=>
  rw[hm]at h;refine⟨m,rfl,?_⟩;have h':[ws[i]].foldlM jF m=some l:=h;rw[P9]at h';cases hs:jF m ws[i]with
  |none=>rw[hs]at h';cases h'
  |some z=>rw[hs]at h';exact h'
theorem bM6 {ws:List (List aK)}(hw: ∀w∈ws,w.length≤120): ∀{i:Nat} {l:List Ln},i≤ws.length→RunD jF ws i l→LsR i l
 |0,l,_,h=>by
  obtain rfl:=F6 (show some ([]:List Ln)=some l from h);exact⟨by simp,by simp,by simp⟩
 |i+1,l,hi,h=>by
  obtain⟨m,I,J⟩:=cC5 hi h;exact dA6 (hw _ (B5 _)) J (bM6 hw (i:=i) (by omega) I)
theorem bM7 {ls:List (List aK)}(U:2≤ls.length)(J:(wd' ls 0).length=7)(I:(wd' ls 1).length=4):vI ls=((ls.drop 2).foldlM jF []).map fun l=>{headF ls with l:=l}:=by
 unfold vI;rw[A7 (by omega)]
theorem tT {ls:List (List aK)}(h:ls.length<2∨(wd' ls 0).length≠7∨(wd' ls 1).length≠4):vI ls=none:=by
 unfold vI;rw[B1 h]
theorem cR2 (w:aK):R40 ((cU w).getD 0):=by
 cases h:cU w with
 |none=>exact⟨by simp,by simp⟩
 |some n=>exact⟨(iN h).1,by have:=(iN h).2;simp;omega⟩
theorem dA7 {ls:List (List aK)}{l:List Ln}(hi:i≤1000)(h:LsR i l):DvR {headF ls with l:=l}:=
 ⟨cR2 _,cR2 _,fun x hx=>⟨h.r x hx,by have:=h.d x hx;omega⟩,by have:=h.len;show l.length≤1000;omega⟩
end Go.Pl
namespace Go.Proofs.YthedbjfipmkpiaaGreatDoor
open Go Go.Hl Go.Pl
variable {r:HV}{ob:Ob}
theorem aQ3 {n:Int}{R:CV→CV→Prop}(I:r= .tup [.c (.agg [.agg [.str [],.str [],zd],.int .i64 0,zd,.int .i64 0,.agg [zd,.str [],.str []],.nils]),.c (.int .i64 n)])(J:R dv0.cv (.int .i64 n)):
  gR 0 r ob (fun r ob'=> ∃u v,r= .tup [.c u,.c v]∧R u v∧ob'=cZ):=by
 subst I;refine aO [] dv0.cv (.int .i64 n) ?_ J;simp[fX];rfl
def fpZ :CV:= .agg [.agg [.str [],.str [],zd],.int .i64 0,zd,.int .i64 0,.agg [zd,.str [],.str []],.slc []]
theorem xY :fpZ.denil=fpZ:=by simp[fpZ,fX]
def fpC (d:Dv)(L:List Ln):List (Nat×HO):=[(0,.box 50 (.c fpZ)),(112,.box 50 (rdV d 488 L.length)),(488,.hrow 41 4 (L.map fun z=>HV.c z.cv))]
def fpO (d:Dv)(l:List Ln)(x:Ln)(N:Nat):List (Nat×HO):=[(0,.box 50 (.c fpZ)),(112,.box 50 (rdV d 488 (l.length+1))),(488,.hrow 41 4 ((l.map fun z=>HV.c z.cv)++[rdE x N])),(N,.row 44 32 (x.d.map dg))]
def Rs.fp (d:Dv)(y:Rs):List (Nat×HO):=match y.x with
 |none=>fpC d []
 |some x=>fpO d y.l x 66
structure RFI (ws:List (List aK))(y:Rs):Prop where
 le:y.i≤ws.length
 run:RunD jF ws y.i y.ls
 hx:y.x=none→y.l=[]
theorem aH3 {n:Nat}{code:Code}{Q:Exit→Fr→Ob→Nat→Prop}{F:List (Nat×HV)}{d:Dv}{y:Rs}(hx:y.x=none→y.l=[])(I:sD 20200 (clF (fob (y.fp d)) [66] (fin F)) F)(h:Hw Tryz.prog n 0 code Q (fin F) (fob (fpC d y.ls)) 20200):Hw Tryz.prog n 0 code Q (fin F) (fob (y.fp d)) 20100:=by
 obtain⟨i,l,x⟩:=y;cases x with
 |none=>
  obtain rfl:l=[]:=hx rfl;refine bW [66] (aZ (bA (by omega) I ?_) h);simp[Rs.fp,Rs.ls,fpC,rdV,Qs.denil,Og.denil,dg_denil,xY]
 |some x=>
  refine bW [66] (aZ (bA (by omega) I ?_) h);simp[Rs.fp,Rs.ls,fpC,fpO,rdV,rdE,mG,jV,Qs.denil,Og.denil,dg_denil,xY,denilL_dg,denilL_int,bV,nU];rfl
variable {D:Dv}{b:aK}
theorem gC (J:gF b=if dvE D=0∧dvO D=b then some D else none)(h:(dvE D !=0)=true∨(dvO D !=b)=true):gF b=none:=by
 rw[J,A7];rintro⟨U,I⟩;rcases h with h|h
 · rw[U]at h;exact absurd h (by decide)
 rw[I]at h;simp at h
theorem kV (J:gF b=if dvE D=0∧dvO D=b then some D else none)(U:(dvE D !=0)=false)(I:(dvO D !=b)=false):gF b=some D:=by
 rw[J,B1 ⟨by simpa using U,by simpa using I⟩]
theorem gX (I:gF b=some D)(J:ddE b=if(gF b).isSome then 0 else 2)(U:r= .tup [.c D.cv,.c (.int .i64 0)]):
  gR 0 r ob (fun r ob'=> ∃u v,r= .tup [.c u,.c v]∧(u=(ddO b).cv∧v= .int .i64 (ddE b))∧ob'=cZ):=by
 subst U;exact aO [] D.cv (.int .i64 0) (by simp[Dv.denil]) ⟨by rw[ddO,I];rfl,by rw[J,I];rfl⟩
theorem cR3 (b:aK)(hl:b.length<2^40):fH Tryz.prog 32 [.slc (b.map u8)] (fun u v=>u=(ddO b).cv∧v= .int .i64 (ddE b)):=by
 have hlen:=vD (b:=b);have ay:=zP (b:=b);refine FW Tryz.func32 ?_;refine R0 ?_;refine aC fun K hK=>Rg ?_;have F:=@denilL_u8;refine SF ?_;refine HS rfl rfl fun K' ab=>T6 ?_;refine D1 (cY8 b hl) ?_;rintro u v ⟨rfl,rfl⟩;refine AX (ab _ _ ?_);clear ab K';refine AU ?_;refine T2 (hK _ _ _ ?_);clear hK K;refine aC fun K hK=>?_;refine R0 ?_;refine aJ (b:=!(eT b==0)) rfl (fun hb=>?_) (fun hb=>?_)
 ·
  have he:eT b≠0:=by simpa using hb
  have e1:ddE b=eT b:=by rw[ddE,B1 he]
  have e2:ddO b=dv0:=by rw[ddO,gF,A7 he];rfl
  clear hb;refine RS ?_;have F:=aI @bG @bH;refine AU ?_;refine aE (RT Tryz.results32 ?_);exact aQ3 (n:=eT b) rfl ⟨by rw[e2],by rw[e1]⟩
 have he:eT b=0:=by simpa using hb
 clear hb;have e0:gF b=(vI (gT b)).bind fun d=>if dvE d=0∧dvO d=b then some d else none:=by rw[←dF2,ddF,B1 he]
 have e1:ddE b=if(gF b).isSome then 0 else 2:=by rw[ddE,A7 (by simpa using he)]
 have U:gF b=none→ ∀{ob:Ob} {r:HV},r= .tup [.c (.agg [.agg [.str [],.str [],zd],.int .i64 0,zd,.int .i64 0,.agg [zd,.str [],.str []],.nils]),.c (.int .i64 2)]→gR 0 r ob (fun r ob'=> ∃u v,r= .tup [.c u,.c v]∧(u=(ddO b).cv∧v= .int .i64 (ddE b))∧ob'=cZ):=fun hn _ _ hr=>aQ3 (n:=2) hr ⟨by rw[ddO,hn];rfl,by rw[e1,hn];rfl⟩;obtain⟨ls,bh⟩: ∃ls,ls=gT b:=⟨_,rfl⟩;rw[←bh]at hlen ay e0⊢;have bn: ∀i j,(wd (wd' ls i) j).length<2^40:=fun i j=>by
  by_cases h:i<ls.length
  ·
   have h1:wd' ls i=ls[i]:=by rw[wd',B4,A9 h];rfl
   rw[h1];have:=(ay _ (B5 h)).wd j;omega
  have h1:wd' ls i=[]:=by rw[wd',B4,I5 (by omega)];rfl
  rw[h1];simp[wd]
 refine aG ?_;refine T0 (hK _ _ _ ?_);clear hK K;refine aC fun K hK=>?_;by_cases h2:2≤ls.length
 ·
  by_cases h7:(wd' ls 0).length=7
  ·
   by_cases h4:(wd' ls 1).length=4
   ·
    refine RS ?_;iterate 17 refine S0 ?_ (e:=fun _ h_=>by simp only[sH,↓sP,sA,tyS,simprocAttr,A0,(show decide ((ls.length:Int)<2)=false from decide_eq_false (by omega)),fA (show 0<ls.length by omega),fA (show 1<ls.length by omega),Int.toNat_zero,Int.toNat_one,(show(((wd' ls 0).length:Int) !=7)=false from by rw[h7];rfl),(show(((wd' ls 1).length:Int) !=4)=false from by rw[h4];rfl)];exact AX h_)
    refine RE ?_;refine CF rfl ?_;refine aG ?_;refine T0 (hK _ _ _ ?_);clear hK K;rw[bM7 h2 h7 h4]at e0;refine R0 ?_;refine aC fun K hK=>DW [(0,[],[]),(1,[],[]),(2,[],[]),(3,[],[]),(4,[],[]),(5,[],[]),(6,[],[]),(7,[],[]),(8,[],[]),(9,[],[]),(10,[],[]),(11,[],[]),(12,[],[]),(13,[],[]),(14,[],[]),(15,[],[]),(16,[],[]),(17,[],[]),(18,[],[]),(19,[],[]),(20,[],[]),(21,[],[]),(22,[],[5,6,7,8,9,10,11,12,13,14,15,16,17,18,19]),(23,[],[]),(24,[],[]),(25,[],[10,11,12,13,14,15,16,17,18,19]),(26,[],[]),(27,[],[]),(28,[],[15,16,17,18,19]),(29,[],[]),(30,[],[]),(31,[],[])] [0,1,3,7,15,0,32,96,224,480,0,1024,3072,7168,15360,0,32768,98304,229376,491520,31,1048607,3145759,7341055,15729663,32506879,66093055,133201919,267419647,536870911,1073741823,2147483647] ?_;iterate 32 refine W0 ?_ (e:=fun _ h_=>by simp only[sH,↓sP,sA,tyS,simprocAttr,A0,fA (show 0<ls.length by omega),fA (show 1<ls.length by omega),E7,K0,h7,h4,cY (show 1<(wd' ls 0).length by omega),cY (show 2<(wd' ls 0).length by omega),cY (show 2<(wd' ls 1).length by omega),cY (show 3<(wd' ls 1).length by omega),bG,bH];exact AX h_)
    refine T2 (hK _ _ _ ?_);clear hK K;refine aC fun K hK=>Rg ?_;iterate 5 refine S0 ?_ (e:=fun _ h_=>by simp only[sH,↓sP,sA,tyS,simprocAttr,A0,fA (show 0<ls.length by omega),E7,h7,cY (show 3<(wd' ls 0).length by omega),bG,bH,dP,dg_cells];exact AX h_)
    refine HS rfl rfl fun K' ab=>?_;simp only[sH,↓sP,sA,tyS,simprocAttr,A0,fA (show 0<ls.length by omega),E7,h7,cY (show 3<(wd' ls 0).length by omega),bG,bH,dP,dg_cells];refine D1 (mL (wd (wd' ls 0) 3)) ?_;rintro u v ⟨rfl,rfl⟩;refine AX (ab _ _ ?_);clear ab K';iterate 6 refine S0 ?_ (e:=fun _ h_=>by simp only[sH,↓sP,sA,tyS,simprocAttr,A0,fA (show 0<ls.length by omega),E7,h7,cY (show 3<(wd' ls 0).length by omega),bG,bH,dP,dg_cells];exact AX h_)
    refine T2 (hK _ _ _ ?_);clear hK K;refine aC fun K hK=>Rg ?_;iterate 5 refine S0 ?_ (e:=fun _ h_=>by simp only[sH,↓sP,sA,tyS,simprocAttr,A0,fA (show 0<ls.length by omega),E7,h7,cY (show 4<(wd' ls 0).length by omega),bG,bH,dP,dg_cells];exact AX h_)
    refine HS rfl rfl fun K' ab=>?_;simp only[sH,↓sP,sA,tyS,simprocAttr,A0,fA (show 0<ls.length by omega),E7,h7,cY (show 4<(wd' ls 0).length by omega),bG,bH,dP,dg_cells];refine D1 (vN (wd (wd' ls 0) 4)) ?_;rintro u v ⟨rfl,rfl⟩;refine AX (ab _ _ ?_);clear ab K';iterate 5 refine S0 ?_ (e:=fun _ h_=>by simp only[sH,↓sP,sA,tyS,simprocAttr,A0,fA (show 0<ls.length by omega),E7,h7,cY (show 4<(wd' ls 0).length by omega),bG,bH,dP,dg_cells];exact AX h_)
    refine T2 (hK _ _ _ ?_);clear hK K;refine aC fun K hK=>Rg ?_;iterate 5 refine S0 ?_ (e:=fun _ h_=>by simp only[sH,↓sP,sA,tyS,simprocAttr,A0,fA (show 0<ls.length by omega),E7,h7,cY (show 5<(wd' ls 0).length by omega),bG,bH,dP,dg_cells];exact AX h_)
    refine HS rfl rfl fun K' ab=>?_;simp only[sH,↓sP,sA,tyS,simprocAttr,A0,fA (show 0<ls.length by omega),E7,h7,cY (show 5<(wd' ls 0).length by omega),bG,bH,dP,dg_cells];refine D1 (mL (wd (wd' ls 0) 5)) ?_;rintro u v ⟨rfl,rfl⟩;refine AX (ab _ _ ?_);clear ab K';iterate 5 refine S0 ?_ (e:=fun _ h_=>by simp only[sH,↓sP,sA,tyS,simprocAttr,A0,fA (show 0<ls.length by omega),E7,h7,cY (show 5<(wd' ls 0).length by omega),bG,bH,dP,dg_cells];exact AX h_)
    refine T2 (hK _ _ _ ?_);clear hK K;refine aC fun K hK=>Rg ?_;iterate 5 refine S0 ?_ (e:=fun _ h_=>by simp only[sH,↓sP,sA,tyS,simprocAttr,A0,fA (show 0<ls.length by omega),E7,h7,cY (show 6<(wd' ls 0).length by omega)];exact AX h_)
    refine HS rfl rfl fun K' ab=>?_;simp only[sH,↓sP,sA,tyS,simprocAttr,A0,fA (show 0<ls.length by omega),E7,h7,cY (show 6<(wd' ls 0).length by omega)];refine D1 (vN (wd (wd' ls 0) 6)) ?_;rintro u v ⟨rfl,rfl⟩;refine AX (ab _ _ ?_);clear ab K';iterate 5 refine S0 ?_ (e:=fun _ h_=>by simp only[sH,↓sP,sA,tyS,simprocAttr,A0,fA (show 0<ls.length by omega),E7,h7,cY (show 6<(wd' ls 0).length by omega)];exact AX h_)
    refine T2 (hK _ _ _ ?_);clear hK K;have F:=aI @bG (aI @bH (aI @dP @dg_cells));refine RF ?_;refine aC fun K hK=>Rg ?_;iterate 5 refine S0 ?_ (e:=fun _ h_=>by simp only[sH,↓sP,sA,tyS,simprocAttr,A0,fA (show 1<ls.length by omega),K0,h4,cY (show 1<(wd' ls 1).length by omega),bG,bH,dP,dg_cells];exact AX h_)
    refine HS rfl rfl fun K' ab=>?_;simp only[sH,↓sP,sA,tyS,simprocAttr,A0,fA (show 1<ls.length by omega),K0,h4,cY (show 1<(wd' ls 1).length by omega),bG,bH,dP,dg_cells];refine D1 (mL (wd (wd' ls 1) 1)) ?_;rintro u v ⟨rfl,rfl⟩;refine AX (ab _ _ ?_);clear ab K';iterate 6 refine S0 ?_ (e:=fun _ h_=>by simp only[sH,↓sP,sA,tyS,simprocAttr,A0,fA (show 1<ls.length by omega),K0,h4,cY (show 1<(wd' ls 1).length by omega),bG,bH,dP,dg_cells];exact AX h_)
    refine T2 (hK _ _ _ ?_);clear hK K;refine aC fun K hK=>?_;refine R0 ?_;refine aL ?_;have bd:(ls.drop 2).length=ls.length-2:=G8;obtain⟨ws,ao⟩: ∃ws,ws=ls.drop 2:=⟨_,rfl⟩;have bj: ∀i (h:i<ws.length),ls[i+2]? =some ws[i]:=fun i h=>by
     rw[←List.getElem?_eq_getElem h,ao,S1,V6]
    rw[←ao]at bd e0;have aw: ∀w∈ws,wOk w:=fun w hw=>ay w (by rw[ao]at hw;exact X1 _ _ hw);clear ao;refine dV 112 102 41 4 rfl (gA ?_ ?_) rfl (gB ?_ ?_ _) ?_
    · simp[Qs.cv,Og.cv,CV.cells,CV.cellsL,zd,dg_cells]
    · simp[Qs.cv,Og.cv,CV.cells,CV.cellsL,zd,dg_cells]
    · simp[Qs.cv,Og.cv,CV.cells,CV.cellsL,zd,dg_cells]
    · simp[Qs.cv,Og.cv,CV.cells,CV.cellsL,zd,dg_cells]
    refine aS1 488 rfl ?_;refine bW [] ?_;obtain⟨d,hd⟩: ∃d,d=headF ls:=⟨_,rfl⟩;have bb: ∀n,HV.agg [HV.c (headF ls).q.cv,HV.c (.int .i64 (headF ls).t),HV.c (dg (headF ls).p),HV.c (.int .i64 (headF ls).r),HV.c (headF ls).o.cv,.own 488 n]=rdV d 488 n:=fun n=>by rw[hd];rfl
    refine bB (α:={y:Rs//RFI ws y}) (fun y=>(fin [(0,.c (.slc (b.map u8))),(2,.ptr 0 0),(4,.c (.slc (ls.map lsC))),(6,.ptr 112 0),(9,.c (.int .i64 (y.1.i+2:Nat)))],fob (y.1.fp d))) 20000 (fun y=>ws.length-y.1.i) ⟨⟨0,[],none⟩,⟨I1 _,RunD.init,fun _=>rfl⟩⟩ (by simp only[Rs.fp,fpC,←bb];exact fG (by simp[cK,denilL_u8,Qs.denil,Og.denil,dg_denil,fX,headF,fpZ])) ?_;rintro⟨⟨i,l,z⟩,hy⟩;have ax:=hy.le;have ae:=hy.run;have aj:=hy.hx;simp only at ax ae aj⊢;clear hy bb;refine aC fun K hK=>?_;refine RS ?_;have F:=@A0.{0,0};refine AU ?_;refine aJ (b:=decide (((i+2:Nat):Int)<ls.length)) rfl (fun hb=>?_) (fun hb=>?_)
    ·
     have ai:i<ws.length:=by have:=F9 hb;omega
     have af:i+2<ls.length:=by omega
     have hw:=aw _ (B5 ai);have aq:0<ws[i].length:=J8.2 hw.1;have ah:=bM6 (fun w h=>(aw w h).2.1) ax ae;have ag:nth (ls.map lsC) (i+2)= .slc (ws[i].map .str):=by
      rw[aW af];have:=bj i ai;rw[A9 af]at this;rw[F6 this];rfl
     clear hb;refine aG ?_;refine T0 (hK _ _ _ ?_);clear hK K;refine aC fun K hK=>?_;refine aL ?_;by_cases an:wd ws[i] 0=wDoc
     ·
      by_cases au:z=none
      ·
       subst au;obtain rfl:l=[]:=aj rfl;simp only[Rs.fp,fpC];have aa:gF b=none:=by
        rw[e0,ae.bad ai (by unfold jF;rw[B1 an];rfl)];rfl
       refine aC fun K hK=>DW [(0,[],[]),(1,[],[]),(2,[],[]),(3,[],[]),(4,[],[]),(9,[],[]),(5,[9],[9]),(6,[9],[]),(7,[9],[]),(8,[9],[]),(10,[],[8]),(11,[],[])] [0,0,0,6,14,31,63,127,127,0,767,2047] ?_;iterate 6 refine W0 ?_ (e:=fun _ h_=>by simp only[sH,↓sP,sA,tyS,simprocAttr,rdV,A0,A1,A4,af,A6,ag,dX,CV.denil,denilL_str];exact AX h_)
       refine bL (g:=none) rfl rfl fun K' ab=>?_;simp only[sH,↓sP,sA,tyS,simprocAttr,rdV,A0,A1,A4,af,A6,ag,dX,CV.denil,denilL_str];refine dR [488] (cC4 ws[i] hw.2.1 aq an d) rfl ⟨rfl,trivial⟩ (by simp) (by simp) ⟨rfl,rfl,rfl,rfl⟩ (by simp[cV]) (by simp[rdV]) ?_;rintro u ar ⟨rfl,rfl⟩;simp only[HV.ren,HV.renL,iL,HO.ren,F2,F0,rdV,show sub [488] 20036 0=488 from rfl];refine AX (ab _ _ ?_);clear ab K';iterate 5 refine W0 ?_ (e:=fun _ h_=>by simp only[sH,↓sP,sA,tyS,simprocAttr,rdV,A0,A1,A4,af,A6,ag,dX,CV.denil,denilL_str];exact AX h_)
       refine T2 (hK _ _ _ ?_);clear hK K;refine aC fun K hK=>?_;refine R0 ?_;refine CT rfl ?_;have F:=aI @bG @bH;refine RF ?_;refine aE (RT Tryz.results32 ?_);first
       |exact U ad rfl
       |exact U aa rfl
       |(refine⟨rfl,?_⟩;exact U ad rfl)
       |(refine⟨rfl,?_⟩;exact U aa rfl)
       |exact U (gC e0 (by first|exact .inl J|exact .inr I)) rfl
       |(refine⟨rfl,?_⟩;exact U (gC e0 (by first|exact .inl J|exact .inr I)) rfl)
       |exact gX (kV e0 J I) e1 rfl
      obtain⟨q,rfl⟩:=Y9.1 au;clear au aj;simp only[Rs.fp,fpO];have bk:=ah.len;have bm:=ah.d q (by simp[Rs.ls]);simp only[Rs.ls,Option.toList_some,A3,A8,C0]at bk;have ak:jF (Rs.ls ⟨i,l,some q⟩) ws[i]=nI (l++[q]) ws[i]:=by unfold jF;rw[B1 an];rfl
      refine aC fun K hK=>DW [(0,[],[]),(1,[],[]),(2,[],[]),(3,[],[]),(4,[],[]),(9,[],[]),(5,[9],[9]),(6,[9],[]),(7,[9],[]),(8,[9],[]),(10,[],[8]),(11,[],[])] [0,0,0,6,14,31,63,127,127,0,767,2047] ?_;iterate 6 refine W0 ?_ (e:=fun _ h_=>by simp only[sH,↓sP,sA,tyS,simprocAttr,rdV,A0,A1,A4,af,A6,ag,dX,CV.denil,denilL_str];exact AX h_)
      refine bL (g:=none) rfl rfl fun K' ab=>?_;simp only[sH,↓sP,sA,tyS,simprocAttr,rdV,A0,A1,A4,af,A6,ag,dX,CV.denil,denilL_str];refine dR [488,66] (cR1 ws[i] hw.2.1 aq an d l q (by omega) (by omega)) rfl ⟨?_,?_,trivial⟩ (by simp) (by simp) ⟨rfl,rfl,rfl,rfl⟩ (by simp[cV,bV,rdE,rlH]) (by simp[rdV]) ?_
      · simp[kH,jG,rdE,sub,rlH]
      · rfl
      rintro u ar ⟨q',rfl,rfl,bf⟩;simp only[rlH,rdE,HV.ren,HV.renL,iL,HO.ren,kH,jG,F0,rdV,show sub [488,66] 20036 0=488 from rfl,show sub [488,66] 20036 1=66 from rfl];refine AX (ab _ _ ?_);clear ab K';iterate 5 refine W0 ?_ (e:=fun _ h_=>by simp only[sH,↓sP,sA,tyS,simprocAttr,rdV,A0,A1,A4,af,A6,ag,dX,CV.denil,denilL_str];exact AX h_)
      refine T2 (hK _ _ _ ?_);clear hK K;refine aC fun K hK=>?_;refine R0 ?_;refine aJ (b:=!(nI (l++[q]) ws[i]).isSome) rfl (fun hb=>?_) (fun hb=>?_)
      ·
       have aa:gF b=none:=by
        rw[e0,ae.bad ai (by rw[ak];simpa using hb)];rfl
       have F:=aI @bG @bH;refine RF ?_;refine aE (RT Tryz.results32 ?_);first
       |exact U ad rfl
       |exact U aa rfl
       |(refine⟨rfl,?_⟩;exact U ad rfl)
       |(refine⟨rfl,?_⟩;exact U aa rfl)
       |exact U (gC e0 (by first|exact .inl J|exact .inr I)) rfl
       |(refine⟨rfl,?_⟩;exact U (gC e0 (by first|exact .inl J|exact .inr I)) rfl)
       |exact gX (kV e0 J I) e1 rfl
      obtain⟨M,hM⟩:=G0.1 (show(nI (l++[q]) ws[i]).isSome=true by simpa using hb);have bl:=bf M hM;clear hb;refine aG ?_;refine T0 (hK _ _ _ ?_);clear hK K;refine aM (by kernel_rfl) ?_;simp only[↓sP,sA,tyS,simprocAttr,rdV,rdE];refine AX (hK _ _ _ ?_);clear hK K;refine aM (by kernel_rfl) ?_;refine TQ (show IntKind.i64.wrap (((i+2:Nat):Int)+1)=((i+1+2:Nat):Int)from by rw[B0 _ (by omega)];omega) ?_;refine⟨⟨⟨i+1,l,some q'⟩,⟨ai,?_,fun h=>by cases h⟩⟩,?_,?_⟩
      · exact ae.next ai (by rw[ak,hM,bl];rfl)
      · simp only[Rs.fp,fpO];exact fG (by simp[rdV,rdE,bV])
      show ws.length-(i+1)<ws.length-i;omega
     by_cases ad:ws[i].length<2
     ·
      have aa:gF b=none:=by
       rw[e0,ae.bad ai (by unfold jF;rw[A7 an,yZ ad];rfl)];rfl
      refine aZ (fr2:=fin [(0,.c (.slc (b.map u8))),(2,.ptr 0 0),(4,.c (.slc (ls.map lsC))),(6,.ptr 112 0),(9,.c (.int .i64 (i+2:Nat)))]) (ob2:=fob (Rs.fp d ⟨i,l,z⟩)) (nx2:=20100) (by cases z<;>simp only[Rs.fp,fpC,fpO]<;>exact fG (by simp[rdV,rdE,bV])) ?_;refine aH3 (y:=⟨i,l,z⟩) aj (by simp[denilL_str,cK,denilL_u8]) ?_;obtain⟨L,hL⟩: ∃L,L=Rs.ls ⟨i,l,z⟩:=⟨_,rfl⟩;rw[←hL]at ae ah⊢;have bg:=ah.len;simp only[fpC];clear hL aj;refine aC fun K hK=>DW [(0,[],[]),(1,[],[]),(2,[],[]),(3,[],[]),(4,[],[]),(9,[],[]),(5,[9],[9]),(6,[9],[]),(7,[9],[]),(8,[9],[]),(10,[],[8]),(11,[],[])] [0,0,0,6,14,31,63,127,127,0,767,2047] ?_;iterate 6 refine W0 ?_ (e:=fun _ h_=>by simp only[sH,↓sP,sA,tyS,simprocAttr,rdV,A0,A1,A4,af,A6,ag,dX,CV.denil,denilL_str];exact AX h_)
      refine bL (g:=none) rfl rfl fun K' ab=>?_;simp only[sH,↓sP,sA,tyS,simprocAttr,rdV,A0,A1,A4,af,A6,ag,dX,CV.denil,denilL_str];refine dR [488] (bG2 ws[i] hw.2.1 aq an d L (by omega)) rfl ⟨?_,trivial⟩ (by simp) (by simp) ⟨rfl,rfl,rfl,rfl⟩ (by simp[cV,bV]) (by simp[rdV]) ?_
      · simp[jG]
      rintro u ar hR;obtain⟨_,_,rfl,rfl⟩|⟨h',_⟩:=hR
      rotate_left 1
      · omega
      simp only[HV.ren,HV.renL,iL,HO.ren,kH,jG,F0,rdV,show sub [488] 20220 0=488 from rfl];refine AX (ab _ _ ?_);clear ab K';iterate 5 refine W0 ?_ (e:=fun _ h_=>by simp only[sH,↓sP,sA,tyS,simprocAttr,rdV,A0,A1,A4,af,A6,ag,dX,CV.denil,denilL_str];exact AX h_)
      refine T2 (hK _ _ _ ?_);clear hK K;refine aC fun K hK=>?_;refine R0 ?_;refine CT rfl ?_;have F:=aI @bG @bH;refine RF ?_;refine aE (RT Tryz.results32 ?_);first
      |exact U ad rfl
      |exact U aa rfl
      |(refine⟨rfl,?_⟩;exact U ad rfl)
      |(refine⟨rfl,?_⟩;exact U aa rfl)
      |exact U (gC e0 (by first|exact .inl J|exact .inr I)) rfl
      |(refine⟨rfl,?_⟩;exact U (gC e0 (by first|exact .inl J|exact .inr I)) rfl)
      |exact gX (kV e0 J I) e1 rfl
     have ak:=fun(L:List Ln)=>(show jF L ws[i]=(kG ws[i]).map fun x=>L++[x]by unfold jF;rw[A7 an]);refine aZ (fr2:=fin [(0,.c (.slc (b.map u8))),(2,.ptr 0 0),(4,.c (.slc (ls.map lsC))),(6,.ptr 112 0),(9,.c (.int .i64 (i+2:Nat)))]) (ob2:=fob (Rs.fp d ⟨i,l,z⟩)) (nx2:=20100) (by cases z<;>simp only[Rs.fp,fpC,fpO]<;>exact fG (by simp[rdV,rdE,bV])) ?_;refine aH3 (y:=⟨i,l,z⟩) aj (by simp[denilL_str,cK,denilL_u8]) ?_;obtain⟨L,hL⟩: ∃L,L=Rs.ls ⟨i,l,z⟩:=⟨_,rfl⟩;rw[←hL]at ae ah⊢;have bg:=ah.len;simp only[fpC];clear hL aj;refine aC fun K hK=>DW [(0,[],[]),(1,[],[]),(2,[],[]),(3,[],[]),(4,[],[]),(9,[],[]),(5,[9],[9]),(6,[9],[]),(7,[9],[]),(8,[9],[]),(10,[],[8]),(11,[],[])] [0,0,0,6,14,31,63,127,127,0,767,2047] ?_;iterate 6 refine W0 ?_ (e:=fun _ h_=>by simp only[sH,↓sP,sA,tyS,simprocAttr,rdV,A0,A1,A4,af,A6,ag,dX,CV.denil,denilL_str];exact AX h_)
     refine bL (g:=none) rfl rfl fun K' ab=>?_;simp only[sH,↓sP,sA,tyS,simprocAttr,rdV,A0,A1,A4,af,A6,ag,dX,CV.denil,denilL_str];refine dR [488] (bG2 ws[i] hw.2.1 aq an d L (by omega)) rfl ⟨?_,trivial⟩ (by simp) (by simp) ⟨rfl,rfl,rfl,rfl⟩ (by simp[cV,bV]) (by simp[rdV]) ?_
     · simp[jG]
     rintro u ar hR;obtain⟨h',_⟩|⟨_,k,n,f,rfl,rfl,hx⟩:=hR
     · exact absurd h' ad
     simp only[HV.ren,HV.renL,iL,HO.ren,kH,jG,F0,rdV,rdE,F2,show sub [488] 20220 0=488 from rfl,show sub [488] 20220 1=20220 from rfl];refine AX (ab _ _ ?_);clear ab K';iterate 5 refine W0 ?_ (e:=fun _ h_=>by simp only[sH,↓sP,sA,tyS,simprocAttr,rdV,A0,A1,A4,af,A6,ag,dX,CV.denil,denilL_str];exact AX h_)
     refine T2 (hK _ _ _ ?_);clear hK K;refine aC fun K hK=>?_;refine R0 ?_;refine aJ (b:=!(kG ws[i]).isSome) rfl (fun hb=>?_) (fun hb=>?_)
     ·
      have aa:gF b=none:=by
       rw[e0,ae.bad ai (by rw[ak,(show kG ws[i]=none by simpa using hb)];rfl)];rfl
      have F:=aI @bG @bH;refine RF ?_;refine aE (RT Tryz.results32 ?_);first
      |exact U ad rfl
      |exact U aa rfl
      |(refine⟨rfl,?_⟩;exact U ad rfl)
      |(refine⟨rfl,?_⟩;exact U aa rfl)
      |exact U (gC e0 (by first|exact .inl J|exact .inr I)) rfl
      |(refine⟨rfl,?_⟩;exact U (gC e0 (by first|exact .inl J|exact .inr I)) rfl)
      |exact gX (kV e0 J I) e1 rfl
     obtain⟨q,hq⟩:=G0.1 (show(kG ws[i]).isSome=true by simpa using hb);obtain rfl:=hx q hq;clear hb hx;refine aG ?_;refine T0 (hK _ _ _ ?_);clear hK K;refine aM (by kernel_rfl) ?_;simp only[↓sP,sA,tyS,simprocAttr,rdV,rdE];refine AX (hK _ _ _ ?_);clear hK K;refine bL2 20220 66 20400 [(0,.c (.slc (b.map u8))),(2,.ptr 0 0),(4,.c (.slc (ls.map lsC))),(6,.ptr 112 0),(9,.c (.int .i64 (i+2:Nat)))] (fpO d L ⟨k,n,[],f⟩ 20220) (by simp) (by simp[fpO,rdV,rdE,bV]) (by omega) (by omega) (by omega) (by omega) (by omega) (by omega) (by omega) (by simp) (by simp[fpO,rdV,rdE,bV]) (aZ (fr2:=fin [(0,.c (.slc (b.map u8))),(2,.ptr 0 0),(4,.c (.slc (ls.map lsC))),(6,.ptr 112 0),(9,.c (.int .i64 (i+2:Nat)))]) (ob2:=fob (fpO d L ⟨k,n,[],f⟩ 66)) (nx2:=20500) (by simp only[fpO];exact fG (by simp[mvF,mvO,mvN,kH,jG,bV,rdV,rdE])) ?_);simp only[fpO];refine aM (by kernel_rfl) ?_;refine TQ (show IntKind.i64.wrap (((i+2:Nat):Int)+1)=((i+1+2:Nat):Int)from by rw[B0 _ (by omega)];omega) ?_;refine⟨⟨⟨i+1,L,some ⟨k,n,[],f⟩⟩,⟨ai,?_,fun h=>by cases h⟩⟩,?_,?_⟩
     · exact ae.next ai (by rw[ak,hq];rfl)
     · simp only[Rs.fp,fpO];exact fG (by simp[rdV,rdE,bV])
     show ws.length-(i+1)<ws.length-i;omega
    have bc:i=ws.length:=by have:=G7 hb;omega
    clear hb;have ah:=bM6 (fun w h=>(aw w h).2.1) ax ae;refine aZ (fr2:=fin [(0,.c (.slc (b.map u8))),(2,.ptr 0 0),(6,.ptr 112 0)]) (ob2:=fob (Rs.fp d ⟨i,l,z⟩)) (nx2:=20100) (by cases z<;>simp only[Rs.fp,fpC,fpO]<;>exact fG (by simp[rdV,rdE,bV])) ?_;refine aH3 (y:=⟨i,l,z⟩) aj (by simp[denilL_u8]) ?_;obtain⟨L,hL⟩: ∃L,L=Rs.ls ⟨i,l,z⟩:=⟨_,rfl⟩;rw[←hL]at ae ah⊢;rw[bc]at ae;rw[ae.fin]at e0;have ba:=cM1 (dA7 (ls:=ls) (by omega) ah);obtain⟨D,hD⟩: ∃D:Dv,D={headF ls with l:=L}:=⟨_,rfl⟩;have az:D.cv= .agg [d.q.cv,.int .i64 d.t,dg d.p,.int .i64 d.r,d.o.cv,.slc (L.map Ln.cv)]:=by rw[hD,hd];rfl
    rw[←hD]at ba
    replace e0:gF b=if dvE D=0∧dvO D=b then some D else none:=by rw[e0,hD];rfl
    simp only[fpC];refine mU 488 (L.map Ln.cv) rfl (mW L) (bW [488] (aZ (fr2:=fin [(0,.c (.slc (b.map cM))),(2,.ptr 0 0),(6,.ptr 112 0)]) (ob2:=fob [(0,.box 50 (.c fpZ)),(112,.box 50 (.c D.cv))]) (nx2:=20300) (fG (by simp[denilL_u8,rdV,Qs.denil,Og.denil,dg_denil,xY,denilL_Ln,az,nU,bT,(show b.map u8=b.map cM from rfl)])) ?_));clear hL aj bc ah az ae hd;refine aV (T3 ?_);clear hK K;refine AX (hK _ _ _ ?_);clear hK K;refine aC fun K hK=>Rg ?_;refine S0 ?_;refine HS rfl rfl fun K' ab=>T5 ?_;refine D1 (aP6 D ba) ?_;rintro u v ⟨rfl,rfl⟩;refine AX (ab _ _ ?_);clear ab K';refine AU ?_;refine T2 (hK _ _ _ ?_);clear hK K;refine aC fun K hK=>?_;refine RS ?_;have F:=aI @bytesC_map @bT;refine AU ?_;refine aH 147 rfl (fun J=>?_) (fun J=>?_)
    ·
     have F:=aI @bytesC_map (aI @bT J);refine AU ?_;refine CT rfl ?_;have F:=aI @bG @bH;refine RF ?_;refine aE (RT Tryz.results32 ?_);first
     |exact U ad rfl
     |exact U aa rfl
     |(refine⟨rfl,?_⟩;exact U ad rfl)
     |(refine⟨rfl,?_⟩;exact U aa rfl)
     |exact U (gC e0 (by first|exact .inl J|exact .inr I)) rfl
     |(refine⟨rfl,?_⟩;exact U (gC e0 (by first|exact .inl J|exact .inr I)) rfl)
     |exact gX (kV e0 J I) e1 rfl
    have F:=aI @bytesC_map (aI @bT J);refine AU ?_;refine aH 153 rfl (fun I=>?_) (fun I=>?_)
    ·
     simp only[I];refine RE ?_;refine CT rfl ?_;have F:=aI @bG @bH;refine RF ?_;refine aE (RT Tryz.results32 ?_);first
     |exact U ad rfl
     |exact U aa rfl
     |(refine⟨rfl,?_⟩;exact U ad rfl)
     |(refine⟨rfl,?_⟩;exact U aa rfl)
     |exact U (gC e0 (by first|exact .inl J|exact .inr I)) rfl
     |(refine⟨rfl,?_⟩;exact U (gC e0 (by first|exact .inl J|exact .inr I)) rfl)
     |exact gX (kV e0 J I) e1 rfl
    simp only[I];refine RE ?_;refine CF rfl ?_;refine aG ?_;refine T0 (hK _ _ _ ?_);clear hK K;refine R0 ?_ (e:=fun _ h_=>by simp only[↓sP,sA,tyS,simprocAttr,fpZ];exact AX h_);refine aE (RT Tryz.results32 ?_);first
    |exact U ad rfl
    |exact U aa rfl
    |(refine⟨rfl,?_⟩;exact U ad rfl)
    |(refine⟨rfl,?_⟩;exact U aa rfl)
    |exact U (gC e0 (by first|exact .inl J|exact .inr I)) rfl
    |(refine⟨rfl,?_⟩;exact U (gC e0 (by first|exact .inl J|exact .inr I)) rfl)
    |exact gX (kV e0 J I) e1 rfl
   have ad:gF b=none:=by rw[e0,tT (.inr (.inr h4))];rfl
   refine RS ?_;iterate 17 refine S0 ?_ (e:=fun _ h_=>by simp only[sH,↓sP,sA,tyS,simprocAttr,A0,(show decide ((ls.length:Int)<2)=false from decide_eq_false (by omega)),fA (show 0<ls.length by omega),fA (show 1<ls.length by omega),Int.toNat_zero,Int.toNat_one,(show(((wd' ls 0).length:Int) !=7)=false from by rw[h7];rfl),(show(((wd' ls 1).length:Int) !=4)=true from R9.2 (by omega))];exact AX h_)
   refine RE ?_;refine CT rfl ?_;have F:=aI @bG @bH;refine RF ?_;refine aE (RT Tryz.results32 ?_);first
   |exact U ad rfl
   |exact U aa rfl
   |(refine⟨rfl,?_⟩;exact U ad rfl)
   |(refine⟨rfl,?_⟩;exact U aa rfl)
   |exact U (gC e0 (by first|exact .inl J|exact .inr I)) rfl
   |(refine⟨rfl,?_⟩;exact U (gC e0 (by first|exact .inl J|exact .inr I)) rfl)
   |exact gX (kV e0 J I) e1 rfl
  have ad:gF b=none:=by rw[e0,tT (.inr (.inl h7))];rfl
  refine RS ?_;iterate 17 refine S0 ?_ (e:=fun _ h_=>by simp only[sH,↓sP,sA,tyS,simprocAttr,A0,(show decide ((ls.length:Int)<2)=false from decide_eq_false (by omega)),fA (show 0<ls.length by omega),Int.toNat_zero,(show(((wd' ls 0).length:Int) !=7)=true from bne_iff_ne.2 (by omega))];exact AX h_)
  refine RE ?_;refine CT rfl ?_;have F:=aI @bG @bH;refine RF ?_;refine aE (RT Tryz.results32 ?_);first
  |exact U ad rfl
  |exact U aa rfl
  |(refine⟨rfl,?_⟩;exact U ad rfl)
  |(refine⟨rfl,?_⟩;exact U aa rfl)
  |exact U (gC e0 (by first|exact .inl J|exact .inr I)) rfl
  |(refine⟨rfl,?_⟩;exact U (gC e0 (by first|exact .inl J|exact .inr I)) rfl)
  |exact gX (kV e0 J I) e1 rfl
 have ad:gF b=none:=by rw[e0,tT (.inl (by omega))];rfl
 refine RS ?_;have F:=aI @A0.{0,0} (show decide ((ls.length:Int)<2)=true from decide_eq_true (by omega));refine AU ?_;refine CT rfl ?_;have F:=aI @bG @bH;refine RF ?_;refine aE (RT Tryz.results32 ?_);first
 |exact U ad rfl
 |exact U aa rfl
 |(refine⟨rfl,?_⟩;exact U ad rfl)
 |(refine⟨rfl,?_⟩;exact U aa rfl)
 |exact U (gC e0 (by first|exact .inl J|exact .inr I)) rfl
 |(refine⟨rfl,?_⟩;exact U (gC e0 (by first|exact .inl J|exact .inr I)) rfl)
 |exact gX (kV e0 J I) e1 rfl
theorem dH5 (b:aK):(ddO b).l.length≤1000∧ ∀z∈(ddO b).l,z.d.length≤1000∧z.f.length≤120:=by
 unfold ddO;cases h:gF b with
 |none=>exact⟨by simp[dv0],by simp[dv0]⟩
 |some d=>
  unfold gF at h;split at h
  ·
   cases I:fZ (gT b)with
   |none=>rw[I]at h;cases h
   |some e=>
    rw[I,J0]at h;split at h
    · obtain rfl:=F6 h;have J:=aU8 zP vD I;exact⟨J.ll,fun z U=>⟨(J.l z U).2,(J.l z U).1.fl⟩⟩
    cases h
  cases h
end Go.Proofs.YthedbjfipmkpiaaGreatDoor
namespace Go.Pl
open Go Go.Hl
theorem qS (ls:List (List aK))(k:Nat):sumD (ls.take k)+sumD (ls.drop k)=sumD ls:=by rw[←gJ,K9]
variable {k:Nat}{ls:List (List aK)}
theorem aH4 (I:k<ls.length):sumD (ls.take k)+gS ls[k]+sumD (ls.drop (k+1))=sumD ls:=by
 have h:=qS ls k;rw[F5 I,lO]at h;omega
structure LsS (ls:List (List aK))(m s:Nat):Prop where
 ok: ∀l∈ls,okL l=true
 len:ls.length≤m
 sum:sumD ls≤s
variable {m s:Nat}
theorem LsS.enc (h:LsS ls m s)(hm:m≤1000)(hs:s≤262144):jN ls=0∧(jZ ls).length≤262144:=by
 have J:=kX (ls:=ls) fun l hl=>((eG l).1 (h.ok l hl)).1;have U:=h.len;have h3:=h.sum;have I:jN ls=0:=by rw[oY (by omega) h.ok,A7 (by omega)]
 exact⟨I,by rw[uW I];omega⟩
theorem cR4 {d:Dv}(h:SmallD d):LsS (fV d) 302 64000:=by
 obtain⟨J,h2⟩:=head_ok h;have hf:=h.fine;have hl:d.l.all cP=true:=by simp only[jU,B3]at hf;exact hf.2
 have U:=lines_ok hl fun x hx=>R6 (aU5 hx) h.refs;have h4:=aF5 hl;have I:=rQ d.l;have a1:=h.lines;have a2:=h.refs;have a3:=h.docs;refine⟨fun w hw=>?_,?_,?_⟩
 ·
  rcases D6.1 hw with hw|hw
  · exact J w hw
  · exact U w hw
 · rw[fV,A3,I];have:(lA d).length=2:=rfl;omega
 · rw[fV,gJ];omega
theorem LsS.out (h:LsS ls m s)(I:k<ls.length):LsS (ls.take k++ls.drop (k+1)) m s:=by
 have J:=aH4 I;have U:=h.len;have h3:=h.sum;refine⟨fun l hl=>?_,by simp;omega,by rw[gJ];omega⟩;rcases D6.1 hl with hl|hl
 · exact h.ok l (J3 hl)
 · exact h.ok l (H8 hl)
theorem LsS.two (h:LsS ls m s)(I:k<ls.length):LsS (ls.take k++[ls[k]]++ls.drop k) (m+1) (s+s):=by
 have U:=aH4 I;have J:=qS ls k;have h2:=h.len;have h3:=h.sum;refine⟨fun l hl=>?_,by simp;omega,?_⟩
 ·
  rcases D6.1 hl with hl|hl
  ·
   rcases D6.1 hl with hl|hl
   · exact h.ok l (J3 hl)
   · rw[E5.1 hl];exact h.ok _ (B5 I)
  · exact h.ok l (H8 hl)
 · rw[gJ,gJ,lO,show sumD []=0 from rfl];omega
theorem cR5 {l:List aK}{j:Nat}(w:aK):gS (l.set j w)≤gS l+(sizeW w+1):=by
 induction l generalizing j with
 |nil=>simp[gS]
 |cons x l I=>
  cases j with
  |zero=>rw[V1,jX,jX];omega
  |succ j=>
   rw[N8,jX,jX];have:=I (j:=j);omega
theorem LsS.word (h:LsS ls m s)(U:k<ls.length)(j:Nat){w:aK}(hw:w.length≤300):LsS (ls.set k (ls[k].set j w)) m (s+2000):=by
 have h1:=aH4 U;have h2:=h.len;have h3:=h.sum;have h5:=dA w;have I:=h.ok _ (B5 U);refine⟨fun l hl=>?_,by simpa using h2,?_⟩
 ·
  rcases M8 hl with hl|rfl
  · exact h.ok l hl
  ·
   rw[eG]at I⊢;obtain⟨a,b,c⟩:=I;refine⟨fun e=>a (by simpa using e),by simpa using b,fun v J=>?_⟩;rcases M8 J with J|rfl
   · exact c v J
   · omega
 · rw[List.set_eq_take_append_cons_drop,B1 U,gJ,lO];have:=cR5 (l:=ls[k]) (j:=j) w;omega
end Go.Pl
