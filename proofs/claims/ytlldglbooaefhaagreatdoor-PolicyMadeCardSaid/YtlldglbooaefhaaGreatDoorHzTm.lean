/- Part of a proof: walks of functions of the program, by contracts, and the rules they use. By an AI agent. -/
import Derived.Test.YtlldglbooaefhaaGreatDoorHzU1
import Derived.Test.YtlldglbooaefhaaGreatDoorHzT5
import Derived.Test.YtlldglbooaefhaaGreatDoorHlTlaw
import Derived.Test.YtlldglbooaefhaaGreatDoorHzTc
import Derived.Test.YtlldglbooaefhaaGreatDoorHzT9
import Derived.Test.YtlldglbooaefhaaGreatDoorPl11v
import Derived.Test.YtlldglbooaefhaaGreatDoorHlIt
set_option linter.unusedSimpArgs false
set_option linter.unusedVariables false
set_option linter.defProp false
namespace Go.Proofs.YtlldglbooaefhaaGreatDoor
open Go Go.Hl Go.Pl
set_option maxRecDepth 10000
set_option maxHeartbeats 16000000
theorem pH (n k:Int)(h1:1≤k)(hk:k<2^40):bW Tryz.prog 25 [.int .i64 n,.int .i64 k] (fun v=> ∃x:Nat,(x:Int)<k∧v= .int .i64 x):=by
 have e0:=Int.tmod_lt_of_pos n (b:=k) (by omega);have e1: -k<n.tmod k:=Int.lt_tmod_of_pos n (by omega);have e2:IntKind.i64.wrap (n.tmod k+k)=n.tmod k+k:=IntWalk.i64_in _ (by omega);have e3:(k=0)=False:=by simp;omega
 have e4:=Int.tmod_lt_of_pos (n.tmod k+k) (b:=k) (by omega);have e5:=Int.tmod_nonneg k (show 0≤n.tmod k+k by omega);refine FW Tryz.func25 ?_;refine R0 ?_;refine aC fun K hK=>Rg ?_;have F:=aI e2 e3;iterate 8 refine SF ?_
 refine T2 (hK _ _ _ ?_);clear hK K;refine aF (RT Tryz.results25 ?_);exact aH [] (.int .i64 ((n.tmod k+k).tmod k)) rfl ⟨((n.tmod k+k).tmod k).toNat,by omega,by rw[Int.toNat_of_nonneg e5]⟩
theorem bV4 (L:List Int)(n:Nat):HGe Tryz.prog 24 [.c (.slc (L.map (.int .i64))),.c (.int .i64 n)] [] (fun r os'=>r= .ptr 0 0∧os'=[.box 83 (.c (tp (L.take n) 0))]):=by
 refine bR (args:=[.c (.slc (L.map (.int .i64))),.c (.int .i64 n)]) Tryz.func24 rfl (by kernel_rfl) (eV rfl (by simp[eE]) (by simp[HV.menL,HV.men])) (Nat.le_of_ble_eq_true rfl) ?_;show Hw _ _ 0 _ _ _ (lst _) 0;rw[show lst []=fob []from by funext i;simp[lst,fob]];refine R0 ?_;refine aC fun K hK=>Rg ?_;have F:=@denilL_int;iterate 9 refine SF ?_
 refine T2 (hK _ _ _ ?_);clear hK K;refine aF (RT Tryz.results24 ?_);refine eA [] [32] (.ptr 0 0) [.box 83 (.c (tp (L.take n) 0))] rfl (by simp[HV.men]) ⟨⟨by simp[HO.men,HV.men],by simp,_,rfl,?_⟩,trivial⟩ rfl (by simp) (by simp) (by simp) ⟨rfl,rfl⟩;simp[HO.close,HV.close,HV.closeL,HO.ren,HV.ren,HV.renL,tau,CV.denil,CV.denilL,denilL_int,HV.norm,fL,upd_at,fob_at,HV.toC,HV.toCL,tp];have e:(if n<L.length then(n:Int)else(L.length:Int)).toNat=min n L.length:=by split<;>omega
 rw[e,←List.map_take,←List.map_take,denilL_int,←List.take_eq_take_min]
theorem aW4 (L:List Int)(a:Nat)(ha:a<2^39):aY4 Tryz.prog 41 83 (tp L a) [] (fun u v'=> ∃(q:Rq) (a':Nat),u=q.cv∧v'=tp L a'∧a'≤a+3∧dB q=true):=by
 refine bR Tryz.func41 rfl (by kernel_rfl) (cZ _ _ _) (Nat.le_of_ble_eq_true rfl) ?_;have hw3: ∀x:Int,0≤x→x<100→IntKind.i64.wrap (1+x)=1+x:=fun x h1 h2=>IntWalk.i64_in _ (by omega);refine R0 ?_;refine aC fun K hK=>Rg ?_;refine S0 ?_;refine HS rfl rfl fun K' hK'=>T5 ?_;refine bV (args:=[_]) (eJ L a 8 (by omega) (by omega)) rfl (by simp) ⟨rfl,rfl,rfl,rfl⟩ ?_;rintro u v' ⟨x,a1,rfl,rfl,h1,h2,h3,h4⟩;refine AX (hK' _ _ ?_);clear hK' K';iterate 4 refine S0 ?_
 refine T2 (hK _ _ _ ?_);clear hK K;refine aC fun K hK=>?_;have key: ∀(q:Rq) (a':Nat) fr ob nx,dB q=true→a'≤a+3→Fits 1 fr ob (fin [(2,.ptr 1 0),(3,.ptr 21 0)]) (fob [(0,.box 83 (.c (tp L a'))),(1,.box 38 (.c rq0.cv)),(21,.box 38 (.c q.cv))]) 600→K fr ob nx:=by
  rintro q a' fr ob nx hq ha' hf;refine hK _ _ _ (bK hf ?_);clear hf hK K;refine R0 ?_;refine aF (RT Tryz.results41 ?_);exact fJ [] q.cv (tp L a') (by simp[HV.close,Rq.denil,HV.norm,HV.toC]) rfl (by simp[HV.close,tp,CV.denil,CV.denilL,denilL_int,HV.norm,HV.toC]) (by simp) ⟨q,a',rfl,rfl,ha',hq⟩
 have hx8:=h4 (by omega);obtain⟨k,hk⟩: ∃k,k=IntKind.i64.wrap (1+x):=⟨_,rfl⟩;have hkx:k=1+x:=by rw[hk,hw3 x h2 (by omega)]
 rw[←hk];clear hk h3 h4;refine R0 ?_;refine aL ?_;refine aC fun K hK=>?_;have key2: ∀(b:Bool) fr ob nx,b=(k==1||(k==3||k==5))→Fits 1 fr ob (fin [(0,.ptr 0 0),(2,.ptr 1 0),(3,.ptr 21 0),(9,.c (.int .i64 k)),(10,.c (.bool b))]) (fob [(0,.box 83 (.c (tp L a1))),(1,.box 38 (.c rq0.cv)),(21,.box 38 (.c (Rq.cv ⟨k,0,0,[]⟩)))]) 200→K fr ob nx:=by
  rintro b fr ob nx rfl hf;refine hK _ _ _ (bK hf ?_);clear hf hK K;refine aJ (b:=_) rfl (fun hb=>?_) (fun hb=>?_)
  ·
   refine Rg ?_;refine S0 ?_;refine HS rfl rfl fun K' hK'=>T5 ?_;refine bV (args:=[_]) (eJ L a1 3 (by omega) (by omega)) rfl (by simp) ⟨rfl,rfl,rfl,rfl⟩ ?_;rintro u v' ⟨y,a2,rfl,rfl,g1,g2,g3,g4⟩;refine AX (hK' _ _ ?_);clear hK' K';iterate 3 refine S0 ?_
   refine T4 ?_;have g5:=g4 (by omega);have hk3:k=1∨k=3∨k=5:=by simpa using hb
   exact key ⟨k,IntKind.i64.wrap (1+y),0,[]⟩ a2 _ _ _ (by rw[hw3 y g2 (by omega),dB,if_pos hk3];simp[inB];omega) (by omega) (fF)
  have h1:=hb;refine R0 ?_;refine aJ (b:=_) rfl (fun hb=>?_) (fun hb=>?_)
  ·
   refine Rg ?_;refine S0 ?_;refine HS rfl rfl fun K' hK'=>T5 ?_;refine bV (args:=[_]) (eJ L a1 2 (by omega) (by omega)) rfl (by simp) ⟨rfl,rfl,rfl,rfl⟩ ?_;rintro u v' ⟨y,a2,rfl,rfl,g1,g2,g3,g4⟩;have g5:=g4 (by omega);clear g3 g4;refine AX (hK' _ _ ?_);clear hK' K';iterate 2 refine S0 ?_
   refine HS rfl rfl fun K' hK'=>T5 ?_;refine bV (args:=[_]) (eJ L a2 2 (by omega) (by omega)) rfl (by simp) ⟨rfl,rfl,rfl,rfl⟩ ?_;rintro u v' ⟨z,a3,rfl,rfl,f1,f2,f3,f4⟩;refine AX (hK' _ _ ?_);clear hK' K';iterate 4 refine S0 ?_
   refine T4 ?_;have n1: ¬(k=1∨k=3∨k=5):=by simpa using h1
   have f5:=f4 (by omega);have hk4:k=4:=by simpa using hb
   exact key ⟨k,IntKind.i64.wrap (1+y),z,[]⟩ a3 _ _ _ (by rw[hw3 y g2 (by omega),dB,if_neg n1,if_pos hk4];simp[inB];omega) (by omega) (fF)
  have n4: ¬k=4:=by simpa using hb
  refine R0 ?_;refine aJ (b:=_) rfl (fun hb=>?_) (fun hb=>?_)
  ·
   refine bE (by kernel_rfl) ?_;simp only[sR,simprocAttr];refine SG0 ?_;refine cW (g:=none) 220 rfl rfl fun K' hK'=>?_;simp only[gX,kP,sH,↓sP,sA,tyS,simprocAttr];repeat refine AI ?_
   refine dN (by first|rfl|simp) ?_;try simp only[sH,↓sP,sA,tyS,simprocAttr]
   refine AX (hK' _ _ ?_);clear hK' K';refine bJ (g:=none) rfl rfl fun K' hK'=>T5 ?_;refine bV (args:=[_]) (bV3 L a1 [[115,104,111,112],[119,101,98]] (by omega) (by decide)) rfl (by simp) ⟨rfl,rfl,rfl,rfl⟩ ?_;rintro u v' ⟨w,a2,rfl,hwm,rfl,g1⟩;refine AX (hK' _ _ ?_);clear hK' K';iterate 2 refine SG0 ?_
   refine T4 ?_;have n1: ¬(k=1∨k=3∨k=5):=by simpa using h1
   have hk2:k=2:=by simpa using hb
   exact key ⟨k,0,0,w⟩ a2 _ _ _ (by
    have hnm:dL w=true:=by
     simp only[List.mem_cons,List.not_mem_nil,or_false]at hwm;rcases hwm with rfl|rfl<;>decide
    rw[dB,if_neg n1,if_neg n4,if_pos hk2,hnm];rfl) (by omega) (fF)
  have n2: ¬k=2:=by simpa using hb
  refine R0 ?_;refine aJ (b:=_) rfl (fun hb=>?_) (fun hb=>?_)
  ·
   refine Rg ?_;refine S0 ?_;refine HS rfl rfl fun K' hK'=>T5 ?_;refine bV (args:=[_]) (eJ L a1 10 (by omega) (by omega)) rfl (by simp) ⟨rfl,rfl,rfl,rfl⟩ ?_;rintro u v' ⟨y,a2,rfl,rfl,g1,g2,g3,g4⟩;refine AX (hK' _ _ ?_);clear hK' K';iterate 3 refine S0 ?_
   refine T4 ?_;have n1: ¬(k=1∨k=3∨k=5):=by simpa using h1
   have g5:=g4 (by omega);have hk6:k=6:=by simpa using hb
   exact key ⟨k,IntKind.i64.wrap (1+y),0,[]⟩ a2 _ _ _ (by rw[hw3 y g2 (by omega),dB,if_neg n1,if_neg n4,if_neg n2,if_pos hk6];simp[inB];omega) (by omega) (fF)
  have n6: ¬k=6:=by simpa using hb
  refine R0 ?_;refine aJ (b:=_) rfl (fun hb=>?_) (fun hb=>?_)
  ·
   refine Rg ?_;refine S0 ?_;refine HS rfl rfl fun K' hK'=>T5 ?_;refine bV (args:=[_]) (eJ L a1 30 (by omega) (by omega)) rfl (by simp) ⟨rfl,rfl,rfl,rfl⟩ ?_;rintro u v' ⟨y,a2,rfl,rfl,g1,g2,g3,g4⟩;refine AX (hK' _ _ ?_);clear hK' K';iterate 2 refine S0 ?_
   refine T4 ?_;have n1: ¬(k=1∨k=3∨k=5):=by simpa using h1
   have g5:=g4 (by omega);have hk7:k=7:=by simpa using hb
   exact key ⟨k,y,0,[]⟩ a2 _ _ _ (by rw[dB,if_neg n1,if_neg n4,if_neg n2,if_neg n6,if_pos hk7,gJ];simp[inB];omega) (by omega) (fF)
  refine aK (T3 ?_);have n1: ¬(k=1∨k=3∨k=5):=by simpa using h1
  have n7: ¬k=7:=by simpa using hb
  have hk8:k=8:=by omega
  exact key ⟨k,0,0,[]⟩ a1 _ _ _ (by rw[dB,if_neg n1,if_neg n4,if_neg n2,if_neg n6,if_neg n7,if_pos hk8];rfl) (by omega) (fF)
 refine R0 ?_;refine aJ (b:=_) rfl (fun hb=>?_) (fun hb=>?_)
 · refine aK (T3 ?_);exact key2 (k==1) _ _ _ (by rw[hb];rfl) (aN (by omega) (by simp[aZ,fin_at,finA_at,upd_at,HV.men,HV.menL,HV.norm,HV.toC,HV.toCL,Rq.cv,rq0]) (by simp[aY,fob_at,upd_at,none0_at,bU,HO.men,HV.men,HV.menL,HV.norm,HV.toC,HV.toCL,Rq.cv,rq0]))
 have h1:=hb;refine R0 ?_;refine aJ (b:=_) rfl (fun hb=>?_) (fun hb=>?_)
 · refine aK (T3 ?_);exact key2 (k==3) _ _ _ (by rw[h1,hb];rfl) (aN (by omega) (by simp[aZ,fin_at,finA_at,upd_at,HV.men,HV.menL,HV.norm,HV.toC,HV.toCL,Rq.cv,rq0]) (by simp[aY,fob_at,upd_at,none0_at,bU,HO.men,HV.men,HV.menL,HV.norm,HV.toC,HV.toCL,Rq.cv,rq0]))
 have h1':=hb;refine aM (by kernel_rfl) ?_;simp only[↓sP,sA,tyS,simprocAttr];exact key2 (k==5) _ _ _ (by rw[h1,h1'];rfl) (aN (by omega) (by simp[aZ,fin_at,finA_at,upd_at,HV.men,HV.menL,HV.norm,HV.toC,HV.toCL,Rq.cv,rq0]) (by simp[aY,fob_at,upd_at,none0_at,bU,HO.men,HV.men,HV.menL,HV.norm,HV.toC,HV.toCL,Rq.cv,rq0]))
def ShN (T:List Nd):Prop:= ∀n∈T,n.q.t.length<2^63
variable {T:List Nd}
theorem ShN.set (h:ShN T)(i:Nat){x:Nd}(hx:x.q.t.length<2^63):ShN (T.set i x):=fun n hn=>by
 rcases List.mem_or_eq_of_mem_set hn with h1|rfl
 · exact h n h1
 exact hx
theorem bN6 (n:Nat):HV.ren (sub [] n) (.ptr 0 0)= .ptr n 0:=by simp[HV.ren,sub]
theorem bC8 (n:Nat)(ob:Ob)(t:TypeId)(v:CV):jD (sub [] n) ob 0 [.box t (.c v)]=upd ob n (some (.box t (.c v))):=by simp[jD,sub,HO.ren,HV.ren]
theorem zJ (l:List Nd):(∀v∈l.map Nd.cv,v.cells=7)=True:=by
 simp only[eq_iff_iff,iff_true];intro v hv;obtain⟨x,_,rfl⟩:=List.mem_map.1 hv;exact x.cells
theorem aC7 (T:List Nd)(i:Nat)(x:Nd):(List.map Nd.cv T).set i x.cv=List.map Nd.cv (T.set i x):=by rw[List.map_set]
theorem tY (T:List Nd)(i:Nat)(x y:Nd):(T.set i x).set i y=T.set i y:=by rw[List.set_set]
variable {i:Nat}
theorem aC8 (hi:i<T.length)(x:Nd):nth (List.map Nd.cv (T.set i x)) i=x.cv:=by
 rw[bN (by simpa using hi)];simp
theorem aW5 (hi:i<T.length)(x:Nd):(T.set i x=[])=False:=by
 simp only[eq_iff_iff,iff_false];intro h;have:=congrArg List.length h;rw[List.length_set,List.length_nil]at this;omega
theorem aC9 (hi:i<T.length):(T=[])=False:=by
 simp only[eq_iff_iff,iff_false];intro h;rw[h]at hi;cases hi
theorem bZ1 {α:Type}(l:List (List UInt8))(j:Nat)(p:List UInt8)(r:List (List UInt8))(h:l.drop j=p::r): ∃hj:j<(l.map fun p=>[CV.slc (p.map u8)]).length,(l.map fun p=>[CV.slc (p.map u8)])[j]=[CV.slc (p.map u8)]∧l.drop (j+1)=r:=by
 have hj:j<l.length:=by
  rcases Nat.lt_or_ge j l.length with h'|h'
  · exact h'
  rw[List.drop_eq_nil_of_le h']at h;cases h
 have h1:=List.drop_eq_getElem_cons hj;rw[h1]at h;cases h;exact⟨by simpa using hj,by simp,rfl⟩
theorem aR5 (l:List UInt8)(c:UInt8)(hl:l.length<2^40):aB8 Tryz.prog 126 [(47,.slc [u8 c]),(47,.slc (l.map u8)),(3,.int .i64 0)] ((aR c l).map fun p=>[.slc (p.map u8)]):=by
 refine yP Tryz.func126 rfl (by kernel_rfl) (Nat.le_of_ble_eq_true rfl) rfl fun L J hS hY=>?_;have e0:jO [(47,CV.slc [u8 c]),(47,.slc (l.map u8)),(3,.int .i64 0)]=fob [(0,.box 47 (.c (.slc [u8 c]))),(1,.box 47 (.c (.slc (l.map u8)))),(2,.box 3 (.c (.int .i64 0)))]:=by
  funext i
  match i with
  |0=>rfl
  |1=>rfl
  |2=>rfl
  |i+3=>simp[jO,fob,upd]
 have e1:gG (List.range [((47:Nat),CV.slc [u8 c]),(47,.slc (l.map u8)),(3,.int .i64 0)].length)=[.ptr 0 0,.ptr 1 0,.ptr 2 0]:=rfl;rw[e0,e1];refine eO fun K hK=>?_;refine eO fun K1 hK1=>mT hS rfl (aM (by kernel_rfl) ?_);simp only[sR,simprocAttr];have F:=rI;iterate 3 refine SF ?_
 simp only[sE,↓reduceIte,simprocAttr,rI];refine hK1 _ _ _ _ _ ?_;clear hK1 K1;refine jE (b:=false) rfl (fun hb=>by cases hb) (fun _=>?_);refine mU ?_;simp only[sE,↓reduceIte,simprocAttr,rI];refine hK _ _ _ _ _ ?_;clear hK K;refine eO fun K hK=>?_;refine nY ?_;refine aI8 (α:={y:Nat×List UInt8//(aR c l).drop y.1=aR c y.2∧y.2.length≤l.length}) hS (fun y=>(fin [(0,.opq (.func (.yield L) #[] #[])),(1,.ptr 0 0),(2,.ptr 1 0),(3,.ptr 2 0)],fob [(0,.box 47 (.c (.slc [u8 c]))),(1,.box 47 (.c (.slc (y.1.2.map u8)))),(2,.box 3 (.c (.int .i64 0)))])) (fun y=>y.1.1) 100 (fun y=>y.1.2.length) ⟨(0,l),rfl,Nat.le_refl _⟩ rfl (fF) rfl ?_;rintro⟨⟨j,rest⟩,hsp,hle⟩;simp only at hsp hle;refine nY ?_;refine eO fun K1 hK1=>mT hS rfl (aM (by kernel_rfl) ?_);simp only[sR,simprocAttr];iterate 2 refine SF ?_
 have F:=aI rI @denilL_u8;refine HS rfl rfl fun K' hK'=>T6 ?_;refine C2 (yS rest c) ?_;rintro u rfl;refine AX (hK' _ _ ?_);clear hK' K';have F:=rI;refine SF ?_;simp only[sE,↓reduceIte,simprocAttr,rI];refine hK1 _ _ _ _ _ ?_;clear hK1 K1;refine eO fun K1 hK1=>?_;refine eO fun K2 hK2=>mT hS rfl (aM (by kernel_rfl) ?_);simp only[sR,simprocAttr];iterate 2 refine SF ?_
 simp only[sE,↓reduceIte,simprocAttr,rI];refine hK2 _ _ _ _ _ ?_;clear hK2 K2;refine jE (b:=decide (dH rest c<0)) rfl (fun hb=>?_) (fun hb=>?_)
 ·
  have hn:dH rest c<0:=by simpa using hb
  rw[mP hn]at hsp;obtain⟨hj,hx,hd⟩:=bZ1 (α:=Nat) _ _ _ _ hsp;refine aI7 ?_;simp only[sE,↓reduceIte,simprocAttr,rI];clear hK1 K1;refine hK _ _ _ _ _ ?_;clear hK K;have htk:List.take rest.length (rest.map u8)=rest.map u8:=List.take_of_length_le (by simp);refine rQ (l:=L) 7 hS hY rfl (by kernel_rfl) (by decide) ?_;simp only[sR,List.range',simprocAttr];have F:=aI rI @List.length_map.{0,0};iterate 6 refine SF ?_
  refine S0 ?_ (e:=fun _ h_=>by simp only[sH,↓sP,sA,tyS,simprocAttr,rI,htk,List.length_map,↓hslice3.eq_def,Int.natCast_nonneg,mN,List.drop_zero,Nat.sub_zero,Int.le_refl,Int.toNat_zero];exact AX h_);rw[hlex];refine⟨_,_,_,hj,rfl,rfl,rfl,rfl,rfl,?_,?_,?_⟩
  · rw[hx];rfl
  · simp only[sR,List.range',simprocAttr];rw[hlex];refine⟨by simp,fun _=>?_⟩;have:=List.drop_eq_nil_iff.1 hd;simp only[List.length_map]at hj⊢;omega
  simp only[sR,List.range',simprocAttr];rw[hlex];exact⟨by simp,fun h=>by cases h⟩
 have hn: ¬dH rest c<0:=by simpa using hb
 obtain⟨k,hk,hkl,hsp2⟩:=dX hn;rw[hk];rw[hsp2]at hsp;obtain⟨hj,hx,hd⟩:=bZ1 (α:=Nat) _ _ _ _ hsp;have hkm:min k rest.length=k:=by omega
 have ek:List.take k (rest.map u8)=(rest.take k).map u8:=List.map_take.symm;have htk:List.take k ((rest.take k).map u8)=(rest.take k).map u8:=List.take_of_length_le (by simp;omega);have hw1:IntKind.i64.wrap ((k:Int)+1)=((k+1:Nat):Int):=by rw[IntWalk.i64_in _ (by omega)];rfl
 have hkl1:k+1≤rest.length:=hkl;have edr:List.take (rest.length-(k+1)) (List.drop (k+1) (rest.map u8))=(rest.drop (k+1)).map u8:=by rw[List.map_drop,List.take_of_length_le (by simp)]
 refine mU ?_;simp only[sE,↓reduceIte,simprocAttr,rI];refine hK1 _ _ _ _ _ ?_;clear hK1 K1;refine eO fun K1 hK1=>mT hS rfl (aM (by kernel_rfl) ?_);simp only[sR,simprocAttr];iterate 6 refine S0 ?_ (e:=fun _ h_=>by simp only[sH,↓sP,sA,tyS,simprocAttr,rI,ek,List.length_map,Int.natCast_nonneg,mN,Int.add_zero,Int.ofNat_le,Nat.le_of_lt hkl,List.drop_zero,Nat.sub_zero,show IntKind.i64.wrap (k:Int)=(k:Int)from IntWalk.i64_in _ (by omega)];exact AX h_)
 simp only[sE,↓reduceIte,simprocAttr,rI];refine hK1 _ _ _ _ _ ?_;clear hK1 K1;refine eO fun K1 hK1=>?_;refine eO fun K2 hK2=>rQ (l:=L) 7 hS hY rfl (by kernel_rfl) (by decide) ?_;simp only[sR,List.range',simprocAttr];have F:=aI rI (aI @List.length_map.{0,0} (aI @List.length_take.{0} hkm));iterate 6 refine SF ?_
 refine S0 ?_ (e:=fun _ h_=>by simp only[sH,↓sP,sA,tyS,simprocAttr,rI,htk,List.length_map,List.length_take,hkm,↓hslice3.eq_def,Int.natCast_nonneg,mN,List.drop_zero,Nat.sub_zero,Int.le_refl,Int.toNat_zero];exact AX h_);rw[hlex];refine⟨_,_,_,hj,rfl,rfl,rfl,rfl,rfl,?_,?_,?_⟩
 · rw[hx];rfl
 ·
  simp only[sR,List.range',simprocAttr];have F:=rI;refine SF ?_;simp only[sE,↓reduceIte,simprocAttr,rI];refine hK2 _ _ _ _ _ ?_;clear hK2 K2;refine jE (b:=false) rfl (fun hb=>by cases hb) (fun _=>?_);refine mU ?_;simp only[sE,↓reduceIte,simprocAttr,rI];refine hK1 _ _ _ _ _ ?_;clear hK1 K1;refine mT hS rfl (aM (by kernel_rfl) ?_);simp only[sR,simprocAttr];have F:=aI rI (aI edr (aI hw1 (aI @List.length_map.{0,0} (aI @Int.natCast_nonneg (aI @mN (aI @Int.ofNat_le (aI hkl1 @denilL_u8)))))));iterate 7 refine SF ?_
  simp only[sE,↓reduceIte,simprocAttr,rI];refine⟨⟨(j+1,rest.drop (k+1)),hd,by simp;omega⟩,fF,trivial,rfl,?_⟩;show(rest.drop (k+1)).length<rest.length;simp;omega
 simp only[sR,List.range',simprocAttr];have F:=rI;refine SF ?_;simp only[sE,↓reduceIte,simprocAttr,rI];refine hK2 _ _ _ _ _ ?_;clear hK2 K2;refine jE (b:=true) rfl (fun _=>?_) (fun hb=>by cases hb);refine aU6 ?_;simp only[sE,↓reduceIte,simprocAttr,rI];exact⟨by simp,fun h=>by cases h⟩
theorem cC0 (s:aG)(hl:s.length<2^40):mR Tryz.prog 87 [.str s] (fun u v=>u= .str ((unW s).getD [])∧v= .bool (unW s).isSome):=by
 refine FW Tryz.func87 ?_;refine R0 ?_;refine aC fun K hK=>?_;refine R0 ?_;refine aJ (b:=s==[126]) rfl (fun hb=>?_) (fun hb=>?_)
 ·
  refine R0 ?_;refine aF (RT Tryz.results87 ?_);have hs:s=[126]:=by simpa using hb
  subst hs;exact bF [] (.str []) (.bool true) rfl ⟨rfl,rfl⟩
 refine aK ?_;refine T0 (hK _ _ _ ?_);clear hK K;have hne:s≠[126]:=by simpa using hb
 clear hb;refine R0 ?_;refine aC fun K hK=>?_;refine R0 ?_;refine aL ?_;refine oX 4 0 5 1 rfl rfl rfl rfl ?_;refine bD (α:={y:Nat×aG//UnSt s y.1 y.2}) (fun y=>(fin [(0,.c (.str s)),(4,.own 24 y.1.2.length),(5,.c (.int .i64 y.1.1))],fob [(24,.row 5 1 (y.1.2.map eB))])) 100 (fun y=>s.length-y.1.1) ⟨(0,[]),UnSt.init s⟩ (fF) ?_;rintro⟨⟨i,out⟩,hst⟩;simp only at hst;have hi:=hst.1;have ho:=hst.2.2.2;refine aC fun K hK=>?_;refine aC fun K hK=>Rg ?_;iterate 4 refine S0 ?_
 refine T2 (hK _ _ _ ?_);clear hK K;refine aJ (b:=decide ((i:Int)<s.length)) rfl (fun hb=>?_) (fun hb=>?_)
 ·
  have hlt:i<s.length:=by simpa using hb
  clear hb;have hgd:s.getD i 0=s[i]:=by simp[hlt]
  refine aK ?_;refine T0 (hK _ _ _ ?_);clear hK K;refine aC fun K hK=>?_;refine aL ?_;refine aC fun K hK=>?_;refine aC fun K hK=>Rg ?_;iterate 3 refine S0 ?_ (e:=fun _ h_=>by simp only[sH,↓sP,sA,tyS,simprocAttr,Int.natCast_nonneg,Int.ofNat_lt,hlt,hgd];exact AX h_)
  refine HS rfl rfl fun K' hK'=>?_;simp only[sH,↓sP,sA,tyS,simprocAttr,Int.natCast_nonneg,Int.ofNat_lt,hlt,hgd];refine C1 (qD s[i]) ?_;rintro u rfl;refine AX (hK' _ _ ?_);clear hK' K';refine T2 (hK _ _ _ ?_);clear hK K;refine aJ (b:=cQ s[i]) rfl (fun hb=>?_) (fun hb=>?_)
  ·
   refine aC fun K hK=>Rg ?_;iterate 7 refine S0 ?_ (e:=fun _ h_=>by simp only[sH,↓sP,sA,tyS,simprocAttr,Int.natCast_nonneg,Int.ofNat_lt,hlt,hgd,List.length_append,List.length_map];exact AX h_)
   refine T2 (hK _ _ _ ?_);clear hK K;refine bA (T3 ?_);clear hK K;refine AX (hK _ _ _ ?_);clear hK K;refine aM (by kernel_rfl) ?_;refine TQ (lK i) ?_;refine⟨⟨(i+1,out++[s[i]]),hst.plain hlt hb⟩,aN (by omega) ?_ ?_,?_⟩
   · simp[aZ,upd_at,fin_at,HV.men]
   · simp only[aY,List.map_append];exact⟨rfl,by omega,trivial,trivial⟩
   show s.length-(i+1)<s.length-i;omega
  refine aK ?_;refine T0 (hK _ _ _ ?_);clear hK K;refine aC fun K hK=>?_;have hp:cQ s[i]=false:=hb;clear hb;have hw1:IntKind.i64.wrap ((i:Int)+1)=((i+1:Nat):Int):=by rw[IntWalk.i64_in _ (by omega)];rfl
  have hw2:IntKind.i64.wrap ((i:Int)+2)=((i+2:Nat):Int):=by rw[IntWalk.i64_in _ (by omega)];rfl
  have hw3:IntKind.i64.wrap (((i+2:Nat):Int)+1)=((i+3:Nat):Int):=by rw[IntWalk.i64_in _ (by omega)];rfl
  refine aC fun K hK=>Rg ?_;iterate 5 refine S0 ?_ (e:=fun _ h_=>by simp only[sH,↓sP,sA,tyS,simprocAttr,Int.natCast_nonneg,Int.ofNat_lt,hlt,hgd,hw2];exact AX h_)
  refine aE 29 rfl (fun h9_29=>?_) (fun h9_29=>?_)
  ·
   iterate 6 refine S0 ?_ (e:=fun _ h_=>by simp only[sH,↓sP,sA,tyS,simprocAttr,Int.natCast_nonneg,Int.ofNat_lt,hlt,hgd,hw2,h9_29];exact AX h_)
   refine T2 (hK _ _ _ ?_);clear hK K;refine CT rfl ?_;refine R0 ?_;refine aF (RT Tryz.results87 ?_);have h37:s[i]≠37:=by rintro h;rw[h]at h9_29;simp at h9_29
   have hn:=mQ (hst.bad1 hlt hp (.inl h37)) hne;exact bF [] (.str []) (.bool false) rfl ⟨by rw[hn];rfl,by rw[hn];rfl⟩
  iterate 6 refine S0 ?_ (e:=fun _ h_=>by simp only[sH,↓sP,sA,tyS,simprocAttr,Int.natCast_nonneg,Int.ofNat_lt,hlt,hgd,hw2,h9_29];exact AX h_)
  refine aE 35 rfl (fun h9_35=>?_) (fun h9_35=>?_)
  ·
   simp only[h9_35];refine T2 (hK _ _ _ ?_);clear hK K;refine CT rfl ?_;refine R0 ?_;refine aF (RT Tryz.results87 ?_);have hi2:s.length≤i+2:=by simp at h9_35;omega
   have hn:=mQ (hst.bad1 hlt hp (.inr hi2)) hne;exact bF [] (.str []) (.bool false) rfl ⟨by rw[hn];rfl,by rw[hn];rfl⟩
  simp only[h9_35];refine T2 (hK _ _ _ ?_);clear hK K;refine CF rfl ?_;refine aK ?_;refine T0 (hK _ _ _ ?_);clear hK K;have h37:s[i]=37:=by
   simp only[bne_eq_false_iff_eq]at h9_29;exact UInt8.toNat_inj.1 (by show s[i].toNat=37;omega)
  have hi2:i+2<s.length:=by simp at h9_35;omega
  have hi1:i+1<s.length:=by omega
  have hg1:s.getD (i+1) 0=s[i+1]:=by simp[hi1]
  have hg2:s.getD (i+2) 0=s[i+2]:=by simp[hi2]
  refine aC fun K hK=>DW [(0,[],[]),(1,[],[]),(2,[],[]),(3,[],[]),(5,[],[]),(6,[],[]),(7,[],[]),(8,[],[]),(4,[],[5,6,7,8]),(9,[],[]),(10,[],[]),(11,[],[])] [0,0,2,7,15,0,0,64,224,511,1023,2047] ?_;have F:=aI @Int.natCast_nonneg (aI @Int.ofNat_lt (aI hw1 (aI hw2 (aI hg1 (aI hg2 (aI hi1 (aI hi2 (aI h9_29 h9_35))))))));iterate 8 refine WF ?_
  refine cV (g:=none) rfl rfl fun K' hK'=>T6 ?_;refine C2 (qE bS2 s[i+1]) ?_;rintro u rfl;refine AX (hK' _ _ ?_);clear hK' K';refine cV (g:=none) rfl rfl fun K' hK'=>T6 ?_;refine C2 (qE bS2 s[i+2]) ?_;rintro u rfl;refine AX (hK' _ _ ?_);clear hK' K';iterate 2 refine WF ?_
  refine T2 (hK _ _ _ ?_);clear hK K;refine aC fun K hK=>?_;by_cases hx:valH s[i+1]<16
  ·
   by_cases hy:valH s[i+2]<16
   ·
    rw[pX,pX,if_pos hx,if_pos hy];have hx0:decide (((valH s[i+1]:Nat):Int)<0)=false:=by simp
    have hy0:decide (((valH s[i+2]:Nat):Int)<0)=false:=by simp
    have e1:IntKind.i64.wrap (16*((valH s[i+1]:Nat):Int))=((16*valH s[i+1]:Nat):Int):=by rw[IntWalk.i64_in _ (by omega)];omega
    have e2:IntKind.i64.wrap (((16*valH s[i+1]:Nat):Int)+((valH s[i+2]:Nat):Int))=((16*valH s[i+1]+valH s[i+2]:Nat):Int):=by rw[IntWalk.i64_in _ (by omega)];omega
    have e3:IntKind.u8.wrap ((16*valH s[i+1]+valH s[i+2]:Nat):Int)=((byteH s[i+1] s[i+2]).toNat:Int):=by rw[IntWalk.u8_in _ (by omega),yI hx hy]
    refine aC fun K hK=>Rg ?_;have F:=aI hx0 (aI hy0 (aI e1 (aI e2 (aI e3 (aI h9_29 h9_35)))));iterate 12 refine SF ?_
    refine aV (g:=some (53,false)) rfl rfl fun K' hK'=>T6 ?_;refine C1 (qD (byteH s[i+1] s[i+2])) ?_;rintro u rfl;refine AX (hK' _ _ ?_);clear hK' K';refine SF ?_;refine T2 (hK _ _ _ ?_);clear hK K;refine aJ (b:=cQ (byteH s[i+1] s[i+2])) rfl (fun hb=>?_) (fun hb=>?_)
    · refine R0 ?_;refine aF (RT Tryz.results87 ?_);have hn:=mQ (hst.bad2 hi2 h37 (by simp[okH,hx,hy,hb])) hne;exact bF [] (.str []) (.bool false) rfl ⟨by rw[hn];rfl,by rw[hn];rfl⟩
    refine aK ?_;refine T0 (hK _ _ _ ?_);clear hK K;refine aC fun K hK=>Rg ?_;have F:=aI @Int.natCast_nonneg (aI @List.length_append.{0} (aI @List.length_map.{0,0} (aI e1 (aI e2 (aI e3 (aI h9_29 h9_35))))));iterate 9 refine SF ?_
    refine T2 (hK _ _ _ ?_);clear hK K;refine aM (by kernel_rfl) ?_;refine TQ hw2 ?_;refine AX (hK _ _ _ ?_);clear hK K;refine aM (by kernel_rfl) ?_;refine TQ hw3 ?_;refine⟨⟨(i+3,out++[byteH s[i+1] s[i+2]]),hst.esc hi2 h37 (by simp[okH,hx,hy,hb])⟩,aN (by omega) ?_ ?_,?_⟩
    · simp[aZ,upd_at,fin_at,HV.men]
    · simp only[aY,List.map_append];exact⟨rfl,by omega,trivial,trivial⟩
    show s.length-(i+3)<s.length-i;omega
   rw[pX,pX,if_pos hx,if_neg hy];have hx0:decide (((valH s[i+1]:Nat):Int)<0)=false:=by simp
   refine aC fun K hK=>Rg ?_;have F:=aI hx0 (aI h9_29 h9_35);iterate 14 refine SF ?_
   refine T2 (hK _ _ _ ?_);clear hK K;refine CT rfl ?_;refine R0 ?_;refine aF (RT Tryz.results87 ?_);have hn:=mQ (hst.bad2 hi2 h37 (by simp[okH,hx,hy])) hne;exact bF [] (.str []) (.bool false) rfl ⟨by rw[hn];rfl,by rw[hn];rfl⟩
  rw[pX,if_neg hx];refine aC fun K hK=>Rg ?_;have F:=aI h9_29 h9_35;iterate 14 refine SF ?_
  refine T2 (hK _ _ _ ?_);clear hK K;refine CT rfl ?_;refine R0 ?_;refine aF (RT Tryz.results87 ?_);have hn:=mQ (hst.bad2 hi2 h37 (by simp[okH,hx])) hne;exact bF [] (.str []) (.bool false) rfl ⟨by rw[hn];rfl,by rw[hn];rfl⟩
 refine bA (T3 ?_);clear hK K;refine AX (hK _ _ _ ?_);clear hK K;have hei:i=s.length:=by simp at hb;omega
 have hfin:=hst.fin hei hne;refine eC [24] (bK (fr2:=fin [(4,.c (.slc (out.map eB)))]) (ob2:=fob []) (nx2:=200) (aN (by omega) (by simp[aZ,dF,fin_at,finA_at,upd_at,fob_at,HV.close,HV.closeL,CV.denil,CV.denilL,dW,HV.men,HV.menL,HV.norm,HV.toC,HV.toCL]) (by simp[aY,dG,fob_at,upd_at,none0_at,bU,HO.close,HV.close,HV.closeL,HO.men,HV.men,HV.menL,HV.norm,HV.toC,HV.toCL])) ?_);refine aC fun K hK=>Rg ?_;have F:=aI @bytesC_map @List.length_map.{0,0};iterate 7 refine SF ?_
 refine T2 (hK _ _ _ ?_);clear hK K;refine aF (RT Tryz.results87 ?_);refine bF [] (.str out) (.bool (decide (0<(out.length:Int)))) rfl ?_;rw[hfin];by_cases ho0:out=[]
 · subst ho0;simp
 have:0<out.length:=List.length_pos_iff.2 ho0;simp[ho0,this]
def lsC (l:List aG):CV:= .slc (l.map .str)
theorem kV (l:List aG):(lsC l).cells=1:=rfl
theorem kW (l:List aG):(lsC l).denil=lsC l:=by simp only[lsC,CV.denil,denilL_str]
theorem aQ (l:List (List aG)):CV.denilL (l.map lsC)=l.map lsC:=bY kW l
theorem cC1 (b:aG)(hl:b.length<2^40):mR Tryz.prog 62 [.slc (b.map u8)] (fun u v=>u= .slc ((fE b).map lsC)∧v= .int .i64 (iG b)):=by
 refine FW Tryz.func62 ?_;have F:=rI;refine RF ?_;refine bI0 ?_;refine aC fun K hK=>?_;have F:=aI rI @List.length_map.{0,0};refine RF ?_;refine aJ (b:=decide ((262144:Int)<b.length)) rfl (fun hb=>?_) (fun hb=>?_)
 ·
  have F:=rI;refine RF ?_;refine aF ?_;simp only[gE,Tryz.results62,fI,gD,eT,↓sP,sA,tyS,simprocAttr,rI];have hE:iG b=3:=by unfold iG;rw[if_pos (by simp at hb;omega)]
  refine bF [] (.slc []) (.int .i64 3) ?_ ⟨by simp only[fE,hE];rfl,by rw[hE]⟩;simp[HV.close,HV.closeL,CV.denil,CV.denilL,HV.norm,HV.toC,HV.toCL]
 refine aK ?_;refine TQ rI ?_;refine AX (hK _ _ _ ?_);clear hK K;have hle:b.length≤262144:=by simp at hb;omega
 clear hb;have F:=rI;refine RF ?_;refine RF ?_;refine aC fun K hK=>?_;refine bF6 ?_;try simp only[↓sP,sA,tyS,simprocAttr,rI]
 refine AX (hK _ _ _ ?_);clear hK K;refine aC fun K hK=>?_;have key: ∀(ok:Bool) (ls:List (List aG)) fr ob nx,(ok=true→fV b=some ls)→(ok=false→fV b=none)→ls.length≤b.length→Fits 0 fr ob (fin [(4,.own 32 ls.length),(5,.ptr 24 0)]) (fob [(24,.box 4 (.c (.bool ok))),(32,.row 60 1 (ls.map lsC))]) 1000→K fr ob nx:=by
  intro ok ls fr ob nx h1 h2 h3 hf;refine hK _ _ _ (bK hf ?_);clear hf hK K;refine aC fun K hK=>?_;cases ok
  ·
   refine aC fun K hK=>Rg ?_;have F:=aI rI @List.length_map.{0,0};iterate 7 refine SF ?_
   simp only[sE,↓reduceIte,simprocAttr,rI];refine AX (hK _ _ _ ?_);clear hK K;refine CT rfl ?_;have F:=rI;refine RF ?_;refine aF ?_;simp only[gE,Tryz.results62,fI,gD,eT,↓sP,sA,tyS,simprocAttr,rI];have hE:iG b=2:=by unfold iG;rw[if_neg (by omega),h2 rfl]
   refine bF [] (.slc []) (.int .i64 2) ?_ ⟨by simp only[fE,hE];rfl,by rw[hE]⟩;simp[HV.close,HV.closeL,CV.denil,CV.denilL,HV.norm,HV.toC,HV.toCL]
  refine aC fun K hK=>Rg ?_;have F:=aI rI @List.length_map.{0,0};iterate 7 refine SF ?_
  simp only[sE,↓reduceIte,simprocAttr,rI];refine AX (hK _ _ _ ?_);clear hK K;refine aJ (b:=decide ((1000:Int)<ls.length)) rfl (fun hb=>?_) (fun hb=>?_)
  ·
   have F:=rI;refine RF ?_;refine aF ?_;simp only[gE,Tryz.results62,fI,gD,eT,↓sP,sA,tyS,simprocAttr,rI];have hE:iG b=2:=by unfold iG;rw[if_neg (by omega),h1 rfl];simp only;rw[if_pos (by simp at hb;omega)]
   refine bF [] (.slc []) (.int .i64 2) ?_ ⟨by simp only[fE,hE];rfl,by rw[hE]⟩;simp[HV.close,HV.closeL,CV.denil,CV.denilL,HV.norm,HV.toC,HV.toCL]
  refine aK ?_;refine TQ rI ?_;refine AX (hK _ _ _ ?_);clear hK K;have F:=rI;refine RF ?_;refine aF ?_;simp only[gE,Tryz.results62,fI,gD,eT,↓sP,sA,tyS,simprocAttr,rI];have hE:iG b=0:=by unfold iG;rw[if_neg (by omega),h1 rfl];simp only;rw[if_neg (by simp at hb;omega)]
  refine bF [32] (.slc (ls.map lsC)) (.int .i64 0) ?_ ⟨by simp only[fE,hE,h1 rfl];rfl,by rw[hE]⟩;simp[HV.close,fob_at,upd_at,HV.norm,HV.toC,HV.closeL,HV.toCL,CV.denil,aQ]
 refine aL ?_;refine oX 4 0 60 1 rfl rfl rfl rfl ?_;refine bD (α:={y:aG×List (List aG)//DecSt b y.1 y.2}) (fun y=>(fin [(0,.c (.slc (y.1.1.map u8))),(4,.own 32 y.1.2.length),(5,.ptr 24 0)],fob [(24,.box 4 (.c (.bool true))),(32,.row 60 1 (y.1.2.map lsC))])) 100 (fun y=>y.1.1.length) ⟨(b,[]),DecSt.init b⟩ (fF) ?_;rintro⟨⟨rest,ls⟩,hst⟩;simp only at hst;have hr1:=hst.2.1;have hr2:=hst.2.2;refine aC fun K hK=>?_;have F:=aI rI @List.length_map.{0,0};refine RF ?_;refine aJ (b:=decide ((0:Int)<rest.length)) rfl (fun hb=>?_) (fun hb=>?_)
 ·
  refine aK ?_;refine TQ rI ?_;refine AX (hK _ _ _ ?_);clear hK K;refine aL ?_;have hne:rest≠[]:=by rintro rfl;simp at hb
  clear hb;refine aC fun K hK=>bE (by kernel_rfl) ?_;simp only[sR,simprocAttr];have F:=aI rI @denilL_u8;refine SGF ?_;refine cW (g:=none) 116 rfl rfl fun K' hK'=>?_;simp only[gX,kP,sH,↓sP,sA,tyS,simprocAttr,rI,denilL_u8];repeat refine AI ?_
  refine dN (by first|rfl|simp) ?_;try simp only[sH,↓sP,sA,tyS,simprocAttr,rI,denilL_u8]
  refine AX (hK' _ _ ?_);clear hK' K';refine bJ (g:=none) rfl rfl fun K' hK'=>T6 ?_;refine oZ (args:=[_,_]) (bT0 rest 10 (by omega)) ⟨rfl,rfl,rfl,rfl⟩ ?_;rintro u v x ⟨li,re,fd,rfl,rfl,rfl,hcut⟩;have hlt:=hcut.lt hne;refine AX (hK' _ _ ?_);clear hK' K';iterate 7 refine SGF ?_
  simp only[sE,↓reduceIte,simprocAttr,rI];refine AX (hK _ _ _ ?_);clear hK K;have F:=rI;refine RF ?_;refine aC fun K hK=>?_;refine aC fun K hK=>bE (by kernel_rfl) ?_;simp only[sR,simprocAttr];refine SG0 ?_ (e:=fun _ h_=>by simp only[sH,↓sP,sA,tyS,simprocAttr,rI,denilL_u8,lU,gG,List.range',List.map_cons,List.map_nil];exact AX h_);refine cW (g:=none) 160 rfl rfl fun K' hK'=>?_;simp only[gX,kP,sH,↓sP,sA,tyS,simprocAttr,rI,denilL_u8,lU,gG,List.range',List.map_cons,List.map_nil];repeat refine AI ?_
  refine dN (by first|rfl|simp) ?_;try simp only[sH,↓sP,sA,tyS,simprocAttr,rI,denilL_u8,lU,gG,List.range',List.map_cons,List.map_nil]
  refine AX (hK' _ _ ?_);clear hK' K';refine bJ (g:=none) rfl rfl fun K' hK'=>?_;simp only[sH,↓sP,sA,tyS,simprocAttr,rI,denilL_u8,lU,gG,List.range',List.map_cons,List.map_nil];refine rR (args:=[_,_]) (bA7 li 32) (by simp) ⟨rfl,rfl,rfl,rfl⟩ ?_;refine AX (hK' _ _ ?_);clear hK' K';simp only[sE,↓reduceIte,simprocAttr,rI];refine AX (hK _ _ _ ?_);clear hK K;refine aL ?_;refine aA9 152 0 9 1 rfl rfl rfl rfl ?_;refine yO (ids:=[164,165,166]) (fin [(0,.c (.slc (rest.map u8))),(4,.own 32 ls.length),(5,.ptr 24 0),(7,.c (.slc (re.map u8))),(8,.c (.bool fd)),(9,.ptr 152 0)]) (fun i=>fob [(24,.box 4 (.c (.bool true))),(32,.row 60 1 (ls.map lsC)),(152,.box 60 (.own 168 i)),(168,.row 9 1 ((wsT li i).map .str))]) 200 (fun i=>bH1 li i) (fun p hp=>by simp at hp) (aR5 li 32 (by omega)) rfl rfl (by decide) ?_ ?_ ?_ ?_ ?_ rfl rfl ?_ ?_
  ·
   intro j x hx
   match j,hx with
   |0,hx=>cases hx;rfl
   |1,hx=>cases hx;rfl
   |2,hx=>cases hx;rfl
  · exact aN (by omega) (by simp[aZ,fin_at,finA_at,upd_at,HV.men,HV.menL,HV.norm,HV.toC,HV.toCL]) (by simp[aY,fob_at,upd_at,none0_at,bU,lU,wsT,HO.men,HV.men,HV.menL,HV.norm,HV.toC,HV.toCL])
  · intro id hid;simp only[List.mem_cons,List.not_mem_nil,or_false]at hid;rcases hid with rfl|rfl|rfl<;>rfl
  · intro x hx;obtain⟨p,_,rfl⟩:=List.mem_map.1 hx;rfl
  · intro p hp;simp only[List.mem_cons,List.not_mem_nil,or_false]at hp;subst hp;exact Nat.le_of_ble_eq_true rfl
  ·
   intro i hi hΦ K hK;have hi':i<(aR 32 li).length:=by simpa using hi
   have hwl:=vK (r:=li) (Nat.le_of_lt hi');have hsl:=kF 32 li;obtain⟨p,hp⟩: ∃p,p=(aR 32 li)[i]:=⟨_,rfl⟩;have hpl:p.length≤li.length:=by rw[hp];exact vI 32 li _ (List.getElem_mem hi')
   have hx:(List.map (fun p=>[CV.slc (List.map u8 p)]) (aR 32 li))[i]=[CV.slc (p.map u8)]:=by rw[List.getElem_map,hp]
   rw[hx];simp only[vP];have hbc:iX (p.map u8)=some p:=bytesC_map p;refine aM (by kernel_rfl) ?_;refine TQ rI ?_;refine AX (hK _ _ _ ?_);clear hK K;refine aL ?_;refine aC fun K hK=>Rg ?_;have F:=aI rI hbc;iterate 2 refine SF ?_
   refine HS rfl rfl fun K' hK'=>T6 ?_;refine D1 (cC0 p (by omega)) ?_;rintro u v ⟨rfl,rfl⟩;refine AX (hK' _ _ ?_);clear hK' K';iterate 5 refine SF ?_
   simp only[sE,↓reduceIte,simprocAttr,rI];refine AX (hK _ _ _ ?_);clear hK K;refine aC fun K hK=>?_;have F:=rI;refine RF ?_;refine aJ (b:=!(unW p).isSome) rfl (fun hb=>?_) (fun hb=>?_)
   · refine RF ?_;refine bA ?_;refine TQ rI ?_;clear hK K;clear hK K;exact key false ls _ _ _ (fun h=>by cases h) (fun _=>hst.bad hcut hne (bH3 hi' (by rw[←hp];simpa using hb))) (by omega) (fF)
   refine aK ?_;refine TQ rI ?_;refine AX (hK _ _ _ ?_);clear hK K;refine Rg ?_;have F:=aI rI (aI @List.length_append.{0} (aI @List.length_map.{0,0} hwl));iterate 5 refine SF ?_
   simp only[sE,↓reduceIte,simprocAttr,rI];refine⟨(show Fits 200 _ _ (fin []) _ 200 from aN (by omega) trivial ?_),aZ6 hi' hΦ (by rw[←hp];simpa using hb)⟩;rw[bH2 hi',←hp];simp[aY,fob_at,upd_at,none0_at,bU,HO.men,HV.men,HV.menL,HV.norm,HV.toC,HV.toCL]
  intro hΦ;simp only[sE,↓reduceIte,simprocAttr,rI];rw[List.length_map]at hΦ⊢;have hwl:=vK (r:=li) (Nat.le_refl _);have hul:=bS3 hΦ;have hsl:=kF 32 li;obtain⟨ws,hws⟩: ∃ws,ws=wsT li (aR 32 li).length:=⟨_,rfl⟩;rw[←hws]at hul hwl;rw[←hws,←hwl];refine AX (hK _ _ _ ?_);clear hK K;refine aC fun K hK=>?_;cases fd
  ·
   refine eC [168] (bK (fr2:=fin [(0,.c (.slc (rest.map u8))),(4,.own 32 ls.length),(5,.ptr 24 0),(7,.c (.slc (re.map u8))),(8,.c (.bool false)),(9,.ptr 152 0)]) (ob2:=fob [(24,.box 4 (.c (.bool true))),(32,.row 60 1 (ls.map lsC)),(152,.box 60 (.c (.slc (ws.map .str))))]) (nx2:=300) (aN (by omega) (by simp[aZ,dF,fin_at,finA_at,upd_at,fob_at,HV.close,HV.closeL,CV.denil,CV.denilL,denilL_u8,HV.men,HV.menL,HV.norm,HV.toC,HV.toCL]) (by simp[aY,dG,fob_at,upd_at,none0_at,bU,HO.close,HV.close,HV.closeL,CV.denil,denilL_str,HO.men,HV.men,HV.menL,HV.norm,HV.toC,HV.toCL])) ?_);refine aC fun K hK=>Rg ?_;iterate 7 refine SF ?_
   simp only[sE,↓reduceIte,simprocAttr,rI];refine AX (hK _ _ _ ?_);clear hK K;refine CT rfl ?_;refine RF ?_;refine bA ?_;refine TQ rI ?_;clear hK K;exact key false ls _ _ _ (fun h=>by cases h) (fun _=>hst.bad0 hcut hne) (by omega) (fF)
  refine eC [168] (bK (fr2:=fin [(0,.c (.slc (rest.map u8))),(4,.own 32 ls.length),(5,.ptr 24 0),(7,.c (.slc (re.map u8))),(8,.c (.bool true)),(9,.ptr 152 0)]) (ob2:=fob [(24,.box 4 (.c (.bool true))),(32,.row 60 1 (ls.map lsC)),(152,.box 60 (.c (.slc (ws.map .str))))]) (nx2:=300) (aN (by omega) (by simp[aZ,dF,fin_at,finA_at,upd_at,fob_at,HV.close,HV.closeL,CV.denil,CV.denilL,denilL_u8,HV.men,HV.menL,HV.norm,HV.toC,HV.toCL]) (by simp[aY,dG,fob_at,upd_at,none0_at,bU,HO.close,HV.close,HV.closeL,CV.denil,denilL_str,HO.men,HV.men,HV.menL,HV.norm,HV.toC,HV.toCL])) ?_);refine aC fun K hK=>Rg ?_;iterate 4 refine SF ?_
  refine aV (g:=some (44,false)) rfl rfl fun K' hK'=>T6 ?_;refine C1 (aJ0 ws (by omega)) ?_;rintro u rfl;refine AX (hK' _ _ ?_);clear hK' K';iterate 2 refine SF ?_
  simp only[sE,↓reduceIte,simprocAttr,rI];refine AX (hK _ _ _ ?_);clear hK K;refine aJ (b:=rM ws !=0) rfl (fun hb=>?_) (fun hb=>?_)
  · refine RF ?_;refine bA ?_;refine TQ rI ?_;clear hK K;exact key false ls _ _ _ (fun h=>by cases h) (fun _=>hst.bad hcut hne (by rw[hul,if_neg];unfold okL;simpa using hb)) (by omega) (fF)
  refine aK ?_;refine TQ rI ?_;refine AX (hK _ _ _ ?_);clear hK K;refine Rg ?_;have F:=aI rI (aI @List.length_append.{0} @List.length_map.{0,0});iterate 7 refine SF ?_
  simp only[sE,↓reduceIte,simprocAttr,rI];have hok:okL ws=true:=by unfold okL;simpa using hb
  refine⟨⟨(re,ls++[ws]),hst.next hcut hne (by rw[hul,if_pos hok])⟩,aN (by omega) ?_ ?_,hlt.1⟩
  · simp[aZ,upd_at,fin_at,HV.men]
  simp only[aY,List.map_append];exact⟨rfl,by omega,trivial,rfl,by omega,trivial,trivial⟩
 refine bA ?_;refine TQ rI ?_;clear hK K;have hr0:rest=[]:=by simpa using hb
 subst hr0;exact key true ls _ _ _ (fun _=>hst.fin) (fun h=>by cases h) (by omega) (fF)
theorem bV5 (s:aG):mR Tryz.prog 107 [.str s] (fun u v=>u= .int .i64 ((bH s).getD 0)∧v= .bool (bH s).isSome):=by
 refine FW Tryz.func107 ?_;refine R0 ?_;refine aC fun K hK=>?_;have key: ∀fr ob nx,gH s=false→Fits 0 fr ob (fin [(0,.c (.str s))]) (fob []) 100→K fr ob nx:=by
  intro fr ob nx hbad hf;refine hK _ _ _ (bK hf ?_);clear hf hK K;have hlen:s.length≤13:=by
   simp only[gH,Bool.or_eq_false_iff,decide_eq_false_iff_not]at hbad;omega
  refine R0 ?_;refine aC fun K hK=>?_;refine R0 ?_;refine aL ?_;refine bD (α:={y:Nat×Nat//DgSt s y.1 y.2}) (fun y=>(fin [(0,.c (.str s)),(4,.c (.int .i64 y.1.2)),(5,.c (.int .i64 y.1.1))],fob [])) 200 (fun y=>s.length-y.1.1) ⟨(0,0),DgSt.init s⟩ (fF) ?_;rintro⟨⟨i,n⟩,hst⟩;simp only at hst;have hi:=hst.1;have hnl:=hst.lt hlen;refine aC fun K hK=>?_;refine aC fun K hK=>Rg ?_;iterate 4 refine S0 ?_
  refine T2 (hK _ _ _ ?_);clear hK K;refine aJ (b:=decide ((i:Int)<s.length)) rfl (fun hb=>?_) (fun hb=>?_)
  ·
   have hlt:i<s.length:=by simpa using hb
   clear hb;have hgd:s.getD i 0=s[i]:=by simp[hlt]
   have hdi:=bI8 s[i];refine aK ?_;refine T0 (hK _ _ _ ?_);clear hK K;refine aC fun K hK=>?_;refine aL ?_;refine aC fun K hK=>?_;have key2: ∀fr ob nx,mV s[i]=true→Fits 0 fr ob (fin [(0,.c (.str s)),(4,.c (.int .i64 n)),(5,.c (.int .i64 i))]) (fob []) 300→K fr ob nx:=by
    intro fr ob nx hd hf;refine hK _ _ _ (bK hf ?_);clear hf hK K;have hd2:48≤s[i].toNat∧s[i].toNat≤57:=by simpa[mV]using hd
    have e1:IntKind.i64.wrap (10*(n:Int))=((10*n:Nat):Int):=by rw[IntWalk.i64_in _ (by omega)];omega
    have e2:IntKind.u8.wrap ((s[i].toNat:Int)-48)=((s[i].toNat-48:Nat):Int):=by rw[IntWalk.u8_in _ (by omega)];omega
    have e3:IntKind.i64.wrap ((s[i].toNat-48:Nat):Int)=((s[i].toNat-48:Nat):Int):=by rw[IntWalk.i64_in _ (by omega)]
    have e4:IntKind.i64.wrap (((10*n:Nat):Int)+((s[i].toNat-48:Nat):Int))=((10*n+(s[i].toNat-48):Nat):Int):=by rw[IntWalk.i64_in _ (by omega)];omega
    refine Rg ?_;iterate 9 refine S0 ?_ (e:=fun _ h_=>by simp only[sH,↓sP,sA,tyS,simprocAttr,Int.natCast_nonneg,Int.ofNat_lt,hlt,hgd,e1,e2,e3,e4];exact AX h_)
    refine T2 (hK _ _ _ ?_);clear hK K;refine aM (by kernel_rfl) ?_;refine TQ (lK i) ?_;refine⟨⟨(i+1,10*n+(s[i].toNat-48)),hst.next hlt hd⟩,fF,?_⟩;show s.length-(i+1)<s.length-i;omega
   refine aC fun K hK=>Rg ?_;iterate 5 refine S0 ?_ (e:=fun _ h_=>by simp only[sH,↓sP,sA,tyS,simprocAttr,Int.natCast_nonneg,Int.ofNat_lt,hlt,hgd];exact AX h_)
   refine aE 33 rfl (fun h7_33=>?_) (fun h7_33=>?_)
   ·
    iterate 5 refine S0 ?_ (e:=fun _ h_=>by simp only[sH,↓sP,sA,tyS,simprocAttr,Int.natCast_nonneg,Int.ofNat_lt,hlt,hgd,h7_33];exact AX h_)
    refine T2 (hK _ _ _ ?_);clear hK K;refine CT rfl ?_;refine R0 ?_;refine aF (RT Tryz.results107 ?_);have hd:mV s[i]=false:=by simp only[mV,Bool.and_eq_false_iff,decide_eq_false_iff_not];simp at h7_33;omega
    have hn:=yT (hst.bad hlt hd);exact bF [] (.int .i64 0) (.bool false) rfl ⟨by rw[hn];rfl,by rw[hn];rfl⟩
   iterate 5 refine S0 ?_ (e:=fun _ h_=>by simp only[sH,↓sP,sA,tyS,simprocAttr,Int.natCast_nonneg,Int.ofNat_lt,hlt,hgd,h7_33];exact AX h_)
   refine aE 38 rfl (fun h7_38=>?_) (fun h7_38=>?_)
   ·
    simp only[h7_38];refine T2 (hK _ _ _ ?_);clear hK K;refine CT rfl ?_;refine R0 ?_;refine aF (RT Tryz.results107 ?_);have hd:mV s[i]=false:=by simp only[mV,Bool.and_eq_false_iff,decide_eq_false_iff_not];simp at h7_38;omega
    have hn:=yT (hst.bad hlt hd);exact bF [] (.int .i64 0) (.bool false) rfl ⟨by rw[hn];rfl,by rw[hn];rfl⟩
   simp only[h7_38];refine T2 (hK _ _ _ ?_);clear hK K;refine CF rfl ?_;refine aK (T3 ?_);exact key2 _ _ _ (by simp only[mV,Bool.and_eq_true,decide_eq_true_eq];simp at h7_33 h7_38;omega) (fF)
  refine bA (T3 ?_);clear hK K;refine AX (hK _ _ _ ?_);clear hK K;refine aC fun K hK=>?_;have hfin:=hst.fin (by simp at hb;omega);clear hb;refine R0 ?_;refine aJ (b:=decide ((1099511627776:Int)<(n:Int))) rfl (fun hb=>?_) (fun hb=>?_)
  · refine R0 ?_;refine aF (RT Tryz.results107 ?_);have hn:=bI7 hfin (by simp at hb;omega);exact bF [] (.int .i64 0) (.bool false) rfl ⟨by rw[hn];rfl,by rw[hn];rfl⟩
  refine aK ?_;refine T0 (hK _ _ _ ?_);clear hK K;refine R0 ?_;refine aF (RT Tryz.results107 ?_);have hn:=aV1 hbad hfin (by simp at hb;omega);exact bF [] (.int .i64 n) (.bool true) rfl ⟨by rw[hn];rfl,by rw[hn];rfl⟩
 refine aC fun K hK=>Rg ?_;iterate 4 refine S0 ?_
 refine aE 8 rfl (fun h1_8=>?_) (fun h1_8=>?_)
 ·
  have F:=h1_8;iterate 14 refine SF ?_
  refine T2 (hK _ _ _ ?_);clear hK K;refine CT rfl ?_;refine R0 ?_;refine aF (RT Tryz.results107 ?_);have hn:bH s=none:=vT (by simp only[gH,Bool.or_eq_true,decide_eq_true_eq];simp at h1_8;left;left;omega);exact bF [] (.int .i64 0) (.bool false) rfl ⟨by rw[hn];rfl,by rw[hn];rfl⟩
 have F:=h1_8;iterate 5 refine SF ?_
 refine aE 12 rfl (fun h1_12=>?_) (fun h1_12=>?_)
 ·
  have F:=aI h1_8 h1_12;iterate 9 refine SF ?_
  refine T2 (hK _ _ _ ?_);clear hK K;refine CT rfl ?_;refine R0 ?_;refine aF (RT Tryz.results107 ?_);have hn:bH s=none:=vT (by simp only[gH,Bool.or_eq_true,decide_eq_true_eq];simp at h1_12;left;right;omega);exact bF [] (.int .i64 0) (.bool false) rfl ⟨by rw[hn];rfl,by rw[hn];rfl⟩
 have F:=aI h1_8 h1_12;iterate 4 refine SF ?_
 refine aE 17 rfl (fun h1_17=>?_) (fun h1_17=>?_)
 ·
  have F:=aI h1_8 (aI h1_12 h1_17);refine SF ?_;refine aV (g:=some (18,true)) rfl rfl fun K' hK'=>T6 ?_;refine⟨by simp at h1_17;omega,?_⟩;refine AX (hK' _ _ ?_);clear hK' K';iterate 3 refine SF ?_
  refine aE 21 rfl (fun h1_21=>?_) (fun h1_21=>?_)
  ·
   simp only[h1_21];refine T2 (hK _ _ _ ?_);clear hK K;refine CT rfl ?_;refine R0 ?_;refine aF (RT Tryz.results107 ?_);have hn:bH s=none:=vT (by
    simp only[gH,Bool.or_eq_true,Bool.and_eq_true,decide_eq_true_eq,beq_iff_eq];right;refine⟨by simp at h1_17;omega,UInt8.toNat_inj.1 ?_⟩;simp only[beq_iff_eq]at h1_21;show(s.getD 0 0).toNat=48;omega)
   exact bF [] (.int .i64 0) (.bool false) rfl ⟨by rw[hn];rfl,by rw[hn];rfl⟩
  simp only[h1_21];refine T2 (hK _ _ _ ?_);clear hK K;refine CF rfl ?_;refine aK (T3 ?_);refine key _ _ _ ?_ (fF);simp only[gH,Bool.or_eq_false_iff,Bool.and_eq_false_iff,decide_eq_false_iff_not,beq_eq_false_iff_ne,ne_eq];simp only[decide_eq_false_iff_not,decide_eq_true_eq]at h1_8 h1_12;refine⟨⟨by omega,by omega⟩,?_⟩;first
   |(right;intro h0;rw[h0]at h1_21;simp at h1_21)
   |(left;simp at h1_17;omega)
 have F:=aI h1_8 (aI h1_12 h1_17);iterate 5 refine SF ?_
 refine T2 (hK _ _ _ ?_);clear hK K;refine CF rfl ?_;refine aK (T3 ?_);refine key _ _ _ ?_ (fF);simp only[gH,Bool.or_eq_false_iff,Bool.and_eq_false_iff,decide_eq_false_iff_not,beq_eq_false_iff_ne,ne_eq];simp only[decide_eq_false_iff_not,decide_eq_true_eq]at h1_8 h1_12;refine⟨⟨by omega,by omega⟩,?_⟩;first
  |(right;intro h0;rw[h0]at h1_21;simp at h1_21)
  |(left;simp at h1_17;omega)
end Go.Proofs.YtlldglbooaefhaaGreatDoor
namespace Go.Pl
open Go Go.Hl
def isV (ls:List (List aG))(a:Nat)(w:aG)(k:Nat):Bool:=decide (a<ls.length)&&((ls.getD a []).length==k&&wd (ls.getD a []) 0==w)
variable {a:Nat}{ls:List (List aG)}
theorem aD0 (h: ¬a<ls.length)(w:aG)(k:Nat):isV ls a w k=false:=by simp[isV,h]
theorem iJ (h:a<ls.length)(w:aG)(k:Nat):isV ls a w k=(ls[a].length==k&&wd ls[a] 0==w):=by simp[isV,h]
theorem fR {w:aG}{k:Nat}(h:isV ls a w k=true): ∃hl:a<ls.length,ls[a].length=k∧wd ls[a] 0=w:=by
 by_cases hl:a<ls.length;all_goals simp_all[iJ,Bool.and_eq_true,beq_iff_eq,aD0]
def fP (ls:List (List aG))(a:Nat)(w:aG):Option Int:=if isV ls a w 2 then bH (wd (ls.getD a []) 1)else none
def lV (ls:List (List aG))(a:Nat)(w:aG):Option (Int×Int):=if isV ls a w 3 then match bH (wd (ls.getD a []) 1),bH (wd (ls.getD a []) 2)with|some n,some m=>some (n,m)|_,_=>none else none
theorem aD1 {w:aG}(h:isV ls a w 2=true)(hl:a<ls.length):fP ls a w=bH (wd ls[a] 1):=by simp[fP,h,hl]
theorem bV6 {w:aG}(h:isV ls a w 2=false):fP ls a w=none:=by simp[fP,h]
theorem bV7 {w:aG}(h:isV ls a w 3=false):lV ls a w=none:=by simp[lV,h]
theorem aW6 {w:aG}(h:isV ls a w 3=true)(hl:a<ls.length):lV ls a w=match bH (wd ls[a] 1),bH (wd ls[a] 2)with|some n,some m=>some (n,m)|_,_=>none:=by simp[lV,h,hl]
variable {n:Int}
theorem iV {w:aG}(h:fP ls a w=some n): ∃hl:a<ls.length,ls[a].length=2∧wd ls[a] 0=w∧bH (wd ls[a] 1)=some n:=by grind[fP,fR]
theorem bC9 {w:aG}{m:Int}(h:lV ls a w=some (n,m)): ∃hl:a<ls.length,ls[a].length=3∧wd ls[a] 0=w∧bH (wd ls[a] 1)=some n∧bH (wd ls[a] 2)=some m:=by
 unfold lV at h;grind[fR]
variable {w:List aG}
theorem xI (h:w.length=2)(h0:wd w 0=dO):eY w=(bH (wd w 1)).map (⟨1,·,0,[]⟩):=by simp[eY,h,h0]
theorem aD2 (h:w.length=2)(h0:wd w 0=eG):eY w=some ⟨2,0,0,wd w 1⟩:=by grind[eY,eG,dO]
theorem xJ (h:w.length=2)(h0:wd w 0=dU):eY w=(bH (wd w 1)).map (⟨3,·,0,[]⟩):=by grind[eY,dU,dO,eG]
theorem aD3 (h:w.length=3)(h0:wd w 0=fN):eY w=match bH (wd w 1),bH (wd w 2)with|some n,some m=>some ⟨4,n,m,[]⟩|_,_=>none:=by
 simp only[eY,h,h0];grind
theorem aL5 (h:w.length=2)(h0:wd w 0=gK):eY w=(bH (wd w 1)).map (⟨5,·,0,[]⟩):=by grind[eY,gK,dO,eG,dU]
theorem aR6 (h:w.length=2)(h0:wd w 0=kH):eY w=(bH (wd w 1)).map (⟨6,·,0,[]⟩):=by grind[eY,kH,dO,eG,dU,gK]
theorem aR7 (h:w.length=2)(h0:wd w 0=lO):eY w=(bH (wd w 1)).map (⟨7,·,0,[]⟩):=by grind[eY,lO,dO,eG,dU,gK,kH]
theorem aD4 (h:w.length=1)(h0:wd w 0=jF):eY w=some ⟨8,0,0,[]⟩:=by simp[eY,h,h0]
def jP (ls:List (List aG))(a:Nat):Option Rq:=if h:a<ls.length then eY ls[a]else none
theorem fS (h:a<ls.length):jP ls a=eY ls[a]:=by simp[jP,h]
theorem bD0 (h1:fP ls a dO=none)(h2:isV ls a eG 2=false)(h3:fP ls a dU=none)(h4:lV ls a fN=none)(h5:fP ls a gK=none)(h6:fP ls a kH=none)
  (h7:fP ls a lO=none) (h8:isV ls a jF 1=false):jP ls a=none:=by
 unfold jP;split
 ·
  rename_i hl;have n1: ∀w,fP ls a w=none→ls[a].length=2∧wd ls[a] 0=w→bH (wd ls[a] 1)=none:=fun w h hc=>by grind[isV,iJ,aD1]
  unfold eY;split
  · grind
  ·
   split
   · grind[iJ]
   ·
    split
    · grind
    ·
     split
     ·
      rename_i hc;have:isV ls a fN 3=true:=by rw[iJ hl];simp[hc]
      grind[aW6,absurd]
     ·
      split
      · grind
      grind[iJ]
 · rfl
def jK (ls:List (List aG))(a:Nat):Option Nd:=if h:a<ls.length then jI ls[a]else none
theorem bN7 (h:isV ls a pB 1=true):jK ls a=some ⟨2,0,0,rq0⟩:=by grind[fR,jK,jI]
theorem bN8 (h:isV ls a pC 1=true):jK ls a=some ⟨3,0,0,rq0⟩:=by grind[fR,jK,jI,pC,pB]
theorem bV8 (h:fP ls a dD=some n):jK ls a=some ⟨4,n,0,rq0⟩:=by grind[iV,jK,jI]
theorem bD1 (h1:isV ls a pB 1=false)(h2:isV ls a pC 1=false)(h3:fP ls a dD=none):jK ls a=none:=by
 unfold jK;split
 ·
  rename_i hl;unfold jI;split
  · grind[iJ]
  grind[iJ,isV,dD,aD1]
 · rfl
end Go.Pl
namespace Go.Proofs.YtlldglbooaefhaaGreatDoor
open Go Go.Hl Go.Pl
set_option maxRecDepth 10000
set_option maxHeartbeats 16000000
def rdr (ls:List (List aG))(a:Nat):CV:= .agg [.slc (ls.map lsC),.int .i64 a]
theorem zK (ls:List (List aG))(a k:Nat)(w:aG)(hk:1≤k):aY4 Tryz.prog 88 94 (rdr ls a) [.str w,.int .i64 k] (fun u v'=>u= .bool (isV ls a w k)∧v'=rdr ls a):=by
 refine bR Tryz.func88 rfl (by kernel_rfl) (cZ _ _ _) (Nat.le_of_ble_eq_true rfl) ?_;refine R0 ?_;refine aC fun K hK=>QR ?_;iterate 11 refine S0 ?_ (e:=fun _ h_=>by simp only[sH,↓sP,sA,tyS,simprocAttr,rdr,Int.natCast_nonneg];exact AX h_)
 refine aE 16 rfl (fun h1_16=>?_) (fun h1_16=>?_)
 ·
  iterate 8 refine S0 ?_ (e:=fun _ h_=>by simp only[sH,↓sP,sA,tyS,simprocAttr,rdr,Int.natCast_nonneg,h1_16];exact AX h_)
  refine aV (g:=some (17,true)) rfl rfl fun K' hK'=>?_;simp only[sH,↓sP,sA,tyS,simprocAttr,rdr,Int.natCast_nonneg,h1_16];have hlt:a<ls.length:=by simpa using h1_16
  simp only[↓sP,sA,tyS,simprocAttr,Int.natCast_nonneg,Int.ofNat_lt,hlt,bN hlt,lsC];refine AX (hK' _ _ ?_);clear hK' K';iterate 6 refine S0 ?_ (e:=fun _ h_=>by simp only[sH,↓sP,sA,tyS,simprocAttr,rdr,Int.natCast_nonneg,h1_16];exact AX h_)
  refine aE 30 rfl (fun h1_30=>?_) (fun h1_30=>?_)
  ·
   iterate 8 refine S0 ?_ (e:=fun _ h_=>by simp only[sH,↓sP,sA,tyS,simprocAttr,rdr,Int.natCast_nonneg,h1_16,h1_30];exact AX h_)
   refine aV (g:=some (32,true)) rfl rfl fun K' hK'=>?_;simp only[sH,↓sP,sA,tyS,simprocAttr,rdr,Int.natCast_nonneg,h1_16,h1_30];have hlt:a<ls.length:=by simpa using h1_16
   have h0:0<ls[a].length:=by simp at h1_30;omega
   simp only[↓sP,sA,tyS,simprocAttr,Int.natCast_nonneg,Int.ofNat_lt,hlt,bN hlt,lsC];refine AX (hK' _ _ ?_);clear hK' K';refine S0 ?_ (e:=fun _ h_=>by simp only[sH,↓sP,sA,tyS,simprocAttr,rdr,Int.natCast_nonneg,h1_16,h1_30];exact AX h_);refine aV (g:=some (32,true)) rfl rfl fun K' hK'=>?_;simp only[sH,↓sP,sA,tyS,simprocAttr,rdr,Int.natCast_nonneg,h1_16,h1_30];have hlt:a<ls.length:=by simpa using h1_16
   have h0:0<ls[a].length:=by simp at h1_30;omega
   simp only[↓sP,sA,tyS,simprocAttr,Int.natCast_pos,h0,bN h0];refine AX (hK' _ _ ?_);clear hK' K';iterate 5 refine S0 ?_ (e:=fun _ h_=>by simp only[sH,↓sP,sA,tyS,simprocAttr,rdr,Int.natCast_nonneg,h1_16,h1_30];exact AX h_)
   refine T2 (hK _ _ _ ?_);clear hK K;refine aF (RT Tryz.results88 ?_);have hlt:a<ls.length:=by simpa using h1_16
   have h30:ls[a].length=k:=by simpa[Int.ofNat_inj]using h1_30
   refine fJ [] (.bool _) (rdr ls a) rfl rfl (by simp[HV.close,HV.closeL,rdr,CV.denil,CV.denilL,aQ,HV.norm,HV.toC,HV.toCL]) (by simp) ⟨?_,rfl⟩;rw[iJ hlt,h30];simp[wd,show 0<ls[a].length by omega]
  iterate 16 refine S0 ?_ (e:=fun _ h_=>by simp only[sH,↓sP,sA,tyS,simprocAttr,rdr,Int.natCast_nonneg,h1_16,h1_30];exact AX h_)
  refine T2 (hK _ _ _ ?_);clear hK K;refine aF (RT Tryz.results88 ?_);have hlt:a<ls.length:=by simpa using h1_16
  have h30: ¬ls[a].length=k:=by simpa[Int.ofNat_inj]using h1_30
  refine fJ [] (.bool false) (rdr ls a) rfl rfl (by simp[HV.close,HV.closeL,rdr,CV.denil,CV.denilL,aQ,HV.norm,HV.toC,HV.toCL]) (by simp) ⟨?_,rfl⟩;rw[iJ hlt];simp[h30]
 iterate 31 refine S0 ?_ (e:=fun _ h_=>by simp only[sH,↓sP,sA,tyS,simprocAttr,rdr,Int.natCast_nonneg,h1_16];exact AX h_)
 refine T2 (hK _ _ _ ?_);clear hK K;refine aF (RT Tryz.results88 ?_);have hlt: ¬a<ls.length:=by simpa using h1_16
 refine fJ [] (.bool false) (rdr ls a) rfl rfl (by simp[HV.close,HV.closeL,rdr,CV.denil,CV.denilL,aQ,HV.norm,HV.toC,HV.toCL]) (by simp) ⟨?_,rfl⟩;rw[aD0 hlt]
theorem kX (ls:List (List aG))(a j:Nat)(ha:a<ls.length)(hj:j<ls[a].length):tA Tryz.prog 89 94 (rdr ls a) [.int .i64 j] (fun u x v'=>u= .int .i64 ((bH (wd ls[a] j)).getD 0)∧x= .bool (bH (wd ls[a] j)).isSome∧v'=rdr ls a):=by
 refine bR Tryz.func89 rfl (by kernel_rfl) (cZ _ _ _) (Nat.le_of_ble_eq_true rfl) ?_;refine R0 ?_;refine aC fun K hK=>DW [(0,[],[]),(1,[],[]),(2,[],[]),(3,[],[]),(4,[],[]),(5,[],[]),(6,[],[]),(7,[],[]),(8,[],[]),(9,[],[]),(10,[],[]),(11,[],[]),(12,[],[]),(13,[],[]),(14,[],[]),(15,[],[]),(16,[],[]),(17,[],[])] [0,1,3,7,0,16,48,112,255,511,0,2047,4095,8191,16383,16383,65535,131071] ?_;iterate 13 refine W0 ?_ (e:=fun _ h_=>by simp only[sH,↓sP,sA,tyS,simprocAttr,rdr,Int.natCast_nonneg,Int.ofNat_lt,ha,bN ha,lsC,hj,bN hj];exact AX h_)
 refine cV (g:=none) rfl rfl fun K' hK'=>?_;simp only[sH,↓sP,sA,tyS,simprocAttr,rdr,Int.natCast_nonneg,Int.ofNat_lt,ha,bN ha,lsC,hj,bN hj];refine D1 (bV5 ls[a][j]) ?_;rintro u v ⟨rfl,rfl⟩;refine AX (hK' _ _ ?_);clear hK' K';iterate 4 refine W0 ?_ (e:=fun _ h_=>by simp only[sH,↓sP,sA,tyS,simprocAttr,rdr,Int.natCast_nonneg,Int.ofNat_lt,ha,bN ha,lsC,hj,bN hj];exact AX h_)
 refine T2 (hK _ _ _ ?_);clear hK K;refine aF (RT Tryz.results89 ?_);exact bS [] (.int .i64 _) (.bool _) (rdr ls a) rfl rfl (by simp[HV.close,HV.closeL,rdr,CV.denil,CV.denilL,aQ,HV.norm,HV.toC,HV.toCL,lsC]) (by simp) ⟨by simp[wd,hj],by simp[wd,hj],rfl⟩
end Go.Proofs.YtlldglbooaefhaaGreatDoor
