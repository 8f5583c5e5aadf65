/- Part of a proof: walks of functions of the program, by contracts, and the rules they use. By an AI agent. -/
import Derived.Test.YthedbjfipmkpiaaGreatDoorPl11c
import Derived.Test.YthedbjfipmkpiaaGreatDoorHdT5
import Derived.Test.YthedbjfipmkpiaaGreatDoorHlTop
import Derived.Test.YthedbjfipmkpiaaGreatDoorHdTg
import Derived.Test.YthedbjfipmkpiaaGreatDoorPl31j
import Derived.Test.YthedbjfipmkpiaaGreatDoorHdUi
import Derived.Test.YthedbjfipmkpiaaGreatDoorHdUn
set_option linter.unusedSimpArgs false
set_option linter.unusedVariables false
set_option linter.defProp false
namespace Go.Proofs.YthedbjfipmkpiaaGreatDoor
open Go Go.Hl Go.Pl
set_option maxRecDepth 10000
set_option maxHeartbeats 16000000
theorem cH8 (L:List Int)(n:Nat):HGe Tryz.prog 10 [.c (.slc (L.map (.int .i64))),.c (.int .i64 n)] [] (fun r os'=>r= .ptr 0 0∧os'=[.box 76 (.c (tp (L.take n) 0))]):=by
 refine bQ (args:=[.c (.slc (L.map (.int .i64))),.c (.int .i64 n)]) Tryz.func10 rfl (by kernel_rfl) (eS rfl (by simp[dL]) (by simp[HV.menL,HV.men])) (Nat.le_of_ble_eq_true rfl) ?_;show Hw _ _ 0 _ _ _ (lst _) 0;rw[show lst []=fob []from by funext i;simp[lst,fob]];refine R0 ?_;refine aC fun K hK=>Rg ?_;have F:=@denilL_int;iterate 9 refine SF ?_
 refine T2 (hK _ _ _ ?_);clear hK K;refine aH (RT Tryz.results10 ?_);refine gN [] [32] (.ptr 0 0) [.box 76 (.c (tp (L.take n) 0))] rfl (by simp[HV.men]) ⟨⟨by simp[HO.men,HV.men],by simp,_,rfl,?_⟩,trivial⟩ rfl (by simp) (by simp) (by simp) ⟨rfl,rfl⟩;simp[HO.close,HV.close,HV.closeL,HO.ren,HV.ren,HV.renL,tau,CV.denil,CV.denilL,denilL_int,HV.norm,aM8,upd_at,fob_at,HV.toC,HV.toCL,tp];have e:(if n<L.length then(n:Int)else(L.length:Int)).toNat=min n L.length:=by split<;>omega
 rw[e,←List.map_take,←List.map_take,denilL_int,←List.take_eq_take_min]
theorem bD7 (L:List Int)(a:Nat)(ha:a<2^39):bF3 Tryz.prog 73 76 (tp L a) [] (fun u v'=> ∃(q:Rq) (a':Nat),u=q.cv∧v'=tp L a'∧a'≤a+3∧eF q=true):=by
 refine bQ Tryz.func73 rfl (by kernel_rfl) (jO _ _ _) (Nat.le_of_ble_eq_true rfl) ?_;have hw3: ∀x:Int,0≤x→x<100→IntKind.i64.wrap (1+x)=1+x:=fun x h1 h2=>IntWalk.i64_in _ (by omega);refine R0 ?_;refine aC fun K hK=>Rg ?_;refine S0 ?_;refine HS rfl rfl fun K' hK'=>T5 ?_;refine cN (args:=[_]) (dQ L a 8 (by omega) (by omega)) rfl (by simp) ⟨rfl,rfl,rfl,rfl⟩ ?_;rintro u v' ⟨x,a1,rfl,rfl,h1,h2,h3,h4⟩;refine AX (hK' _ _ ?_);clear hK' K';iterate 4 refine S0 ?_
 refine T2 (hK _ _ _ ?_);clear hK K;refine aC fun K hK=>?_;have key: ∀(q:Rq) (a':Nat) fr ob nx,eF q=true→a'≤a+3→Fits 1 fr ob (fin [(2,.ptr 1 0),(3,.ptr 21 0)]) (fob [(0,.box 76 (.c (tp L a'))),(1,.box 87 (.c rq0.cv)),(21,.box 87 (.c q.cv))]) 600→K fr ob nx:=by
  rintro q a' fr ob nx hq ha' hf;refine hK _ _ _ (bO hf ?_);clear hf hK K;refine R0 ?_;refine aH (RT Tryz.results73 ?_);exact lM [] q.cv (tp L a') (by simp[HV.close,Rq.denil,HV.norm,HV.toC]) rfl (by simp[HV.close,tp,CV.denil,CV.denilL,denilL_int,HV.norm,HV.toC]) (by simp) ⟨q,a',rfl,rfl,ha',hq⟩
 have hx8:=h4 (by omega);obtain⟨k,hk⟩: ∃k,k=IntKind.i64.wrap (1+x):=⟨_,rfl⟩;have hkx:k=1+x:=by rw[hk,hw3 x h2 (by omega)]
 rw[←hk];clear hk h3 h4;refine R0 ?_;refine aO ?_;refine aC fun K hK=>?_;have key2: ∀(b:Bool) fr ob nx,b=(k==1||(k==3||k==5))→Fits 1 fr ob (fin [(0,.ptr 0 0),(2,.ptr 1 0),(3,.ptr 21 0),(9,.c (.int .i64 k)),(10,.c (.bool b))]) (fob [(0,.box 76 (.c (tp L a1))),(1,.box 87 (.c rq0.cv)),(21,.box 87 (.c (Rq.cv ⟨k,0,0,[]⟩)))]) 200→K fr ob nx:=by
  rintro b fr ob nx rfl hf;refine hK _ _ _ (bO hf ?_);clear hf hK K;refine aJ (b:=_) rfl (fun hb=>?_) (fun hb=>?_)
  ·
   refine Rg ?_;refine S0 ?_;refine HS rfl rfl fun K' hK'=>T5 ?_;refine cN (args:=[_]) (dQ L a1 3 (by omega) (by omega)) rfl (by simp) ⟨rfl,rfl,rfl,rfl⟩ ?_;rintro u v' ⟨y,a2,rfl,rfl,g1,g2,g3,g4⟩;refine AX (hK' _ _ ?_);clear hK' K';iterate 3 refine S0 ?_
   refine T4 ?_;have g5:=g4 (by omega);have hk3:k=1∨k=3∨k=5:=by simpa using hb
   exact key ⟨k,IntKind.i64.wrap (1+y),0,[]⟩ a2 _ _ _ (by rw[hw3 y g2 (by omega),eF,if_pos hk3];simp[inB];omega) (by omega) (fF)
  have h1:=hb;refine R0 ?_;refine aJ (b:=_) rfl (fun hb=>?_) (fun hb=>?_)
  ·
   refine Rg ?_;refine S0 ?_;refine HS rfl rfl fun K' hK'=>T5 ?_;refine cN (args:=[_]) (dQ L a1 2 (by omega) (by omega)) rfl (by simp) ⟨rfl,rfl,rfl,rfl⟩ ?_;rintro u v' ⟨y,a2,rfl,rfl,g1,g2,g3,g4⟩;have g5:=g4 (by omega);clear g3 g4;refine AX (hK' _ _ ?_);clear hK' K';iterate 2 refine S0 ?_
   refine HS rfl rfl fun K' hK'=>T5 ?_;refine cN (args:=[_]) (dQ L a2 2 (by omega) (by omega)) rfl (by simp) ⟨rfl,rfl,rfl,rfl⟩ ?_;rintro u v' ⟨z,a3,rfl,rfl,f1,f2,f3,f4⟩;refine AX (hK' _ _ ?_);clear hK' K';iterate 4 refine S0 ?_
   refine T4 ?_;have n1: ¬(k=1∨k=3∨k=5):=by simpa using h1
   have f5:=f4 (by omega);have hk4:k=4:=by simpa using hb
   exact key ⟨k,IntKind.i64.wrap (1+y),z,[]⟩ a3 _ _ _ (by rw[hw3 y g2 (by omega),eF,if_neg n1,if_pos hk4];simp[inB];omega) (by omega) (fF)
  have n4: ¬k=4:=by simpa using hb
  refine R0 ?_;refine aJ (b:=_) rfl (fun hb=>?_) (fun hb=>?_)
  ·
   refine cH (by kernel_rfl) ?_;simp only[sR,simprocAttr];refine SG0 ?_;refine dU (g:=none) 220 rfl rfl fun K' hK'=>?_;simp only[iT,lK,sH,↓sP,sA,tyS,simprocAttr];repeat refine AI ?_
   refine dX (by first|rfl|simp) ?_;try simp only[sH,↓sP,sA,tyS,simprocAttr]
   refine AX (hK' _ _ ?_);clear hK' K';refine aZ (g:=none) rfl rfl fun K' hK'=>T5 ?_;refine cN (args:=[_]) (cH7 L a1 [[115,104,111,112],[119,101,98]] (by omega) (by decide)) rfl (by simp) ⟨rfl,rfl,rfl,rfl⟩ ?_;rintro u v' ⟨w,a2,rfl,hwm,rfl,g1⟩;refine AX (hK' _ _ ?_);clear hK' K';iterate 2 refine SG0 ?_
   refine T4 ?_;have n1: ¬(k=1∨k=3∨k=5):=by simpa using h1
   have hk2:k=2:=by simpa using hb
   exact key ⟨k,0,0,w⟩ a2 _ _ _ (by
    have hnm:eK w=true:=by
     simp only[List.mem_cons,List.not_mem_nil,or_false]at hwm;rcases hwm with rfl|rfl<;>decide
    rw[eF,if_neg n1,if_neg n4,if_pos hk2,hnm];rfl) (by omega) (fF)
  have n2: ¬k=2:=by simpa using hb
  refine R0 ?_;refine aJ (b:=_) rfl (fun hb=>?_) (fun hb=>?_)
  ·
   refine Rg ?_;refine S0 ?_;refine HS rfl rfl fun K' hK'=>T5 ?_;refine cN (args:=[_]) (dQ L a1 10 (by omega) (by omega)) rfl (by simp) ⟨rfl,rfl,rfl,rfl⟩ ?_;rintro u v' ⟨y,a2,rfl,rfl,g1,g2,g3,g4⟩;refine AX (hK' _ _ ?_);clear hK' K';iterate 3 refine S0 ?_
   refine T4 ?_;have n1: ¬(k=1∨k=3∨k=5):=by simpa using h1
   have g5:=g4 (by omega);have hk6:k=6:=by simpa using hb
   exact key ⟨k,IntKind.i64.wrap (1+y),0,[]⟩ a2 _ _ _ (by rw[hw3 y g2 (by omega),eF,if_neg n1,if_neg n4,if_neg n2,if_pos hk6];simp[inB];omega) (by omega) (fF)
  have n6: ¬k=6:=by simpa using hb
  refine R0 ?_;refine aJ (b:=_) rfl (fun hb=>?_) (fun hb=>?_)
  ·
   refine Rg ?_;refine S0 ?_;refine HS rfl rfl fun K' hK'=>T5 ?_;refine cN (args:=[_]) (dQ L a1 30 (by omega) (by omega)) rfl (by simp) ⟨rfl,rfl,rfl,rfl⟩ ?_;rintro u v' ⟨y,a2,rfl,rfl,g1,g2,g3,g4⟩;refine AX (hK' _ _ ?_);clear hK' K';iterate 2 refine S0 ?_
   refine T4 ?_;have n1: ¬(k=1∨k=3∨k=5):=by simpa using h1
   have g5:=g4 (by omega);have hk7:k=7:=by simpa using hb
   exact key ⟨k,y,0,[]⟩ a2 _ _ _ (by rw[eF,if_neg n1,if_neg n4,if_neg n2,if_neg n6,if_pos hk7,rX];simp[inB];omega) (by omega) (fF)
  refine aN (T3 ?_);have n1: ¬(k=1∨k=3∨k=5):=by simpa using h1
  have n7: ¬k=7:=by simpa using hb
  have hk8:k=8:=by omega
  exact key ⟨k,0,0,[]⟩ a1 _ _ _ (by rw[eF,if_neg n1,if_neg n4,if_neg n2,if_neg n6,if_neg n7,if_pos hk8];rfl) (by omega) (fF)
 refine R0 ?_;refine aJ (b:=_) rfl (fun hb=>?_) (fun hb=>?_)
 · refine aN (T3 ?_);exact key2 (k==1) _ _ _ (by rw[hb];rfl) (aM (by omega) (by simp[aW,fin_at,finA_at,upd_at,HV.men,HV.menL,HV.norm,HV.toC,HV.toCL,Rq.cv,rq0]) (by simp[aX,fob_at,upd_at,none0_at,bI,HO.men,HV.men,HV.menL,HV.norm,HV.toC,HV.toCL,Rq.cv,rq0]))
 have h1:=hb;refine R0 ?_;refine aJ (b:=_) rfl (fun hb=>?_) (fun hb=>?_)
 · refine aN (T3 ?_);exact key2 (k==3) _ _ _ (by rw[h1,hb];rfl) (aM (by omega) (by simp[aW,fin_at,finA_at,upd_at,HV.men,HV.menL,HV.norm,HV.toC,HV.toCL,Rq.cv,rq0]) (by simp[aX,fob_at,upd_at,none0_at,bI,HO.men,HV.men,HV.menL,HV.norm,HV.toC,HV.toCL,Rq.cv,rq0]))
 have h1':=hb;refine aD (by kernel_rfl) ?_;simp only[↓sP,sA,tyS,simprocAttr];exact key2 (k==5) _ _ _ (by rw[h1,h1'];rfl) (aM (by omega) (by simp[aW,fin_at,finA_at,upd_at,HV.men,HV.menL,HV.norm,HV.toC,HV.toCL,Rq.cv,rq0]) (by simp[aX,fob_at,upd_at,none0_at,bI,HO.men,HV.men,HV.menL,HV.norm,HV.toC,HV.toCL,Rq.cv,rq0]))
def ShN (T:List Nd):Prop:= ∀n∈T,n.q.t.length<2^63
variable {T:List Nd}
theorem ShN.set (h:ShN T)(i:Nat){x:Nd}(hx:x.q.t.length<2^63):ShN (T.set i x):=fun n hn=>by
 rcases List.mem_or_eq_of_mem_set hn with h1|rfl
 · exact h n h1
 exact hx
theorem bZ4 (n:Nat):HV.ren (sub [] n) (.ptr 0 0)= .ptr n 0:=by simp[HV.ren,sub]
theorem bM3 (n:Nat)(ob:Ob)(t:TypeId)(v:CV):iV (sub [] n) ob 0 [.box t (.c v)]=upd ob n (some (.box t (.c v))):=by simp[iV,sub,HO.ren,HV.ren]
def aB :Nat→Nat
 |0=>4
 |d+1=>8+3*aB d
theorem aS0 : ∀d,d≤3→aB d≤400:=by decide
theorem cJ4 : ∀d,d≤3→4≤aB d:=by decide
variable {d:Nat}
theorem cO0 {n:Nat}(hd:d≤3){p:Nat×Nat}(h:p∈pos d n):p.1≤60:=by
 rcases Nat.lt_or_ge n 9 with hn|hn
 ·
  have key: ∀d,d<4→ ∀n,n<9→ ∀p∈pos d n,p.1≤60:=by decide+kernel
  exact key d (by omega) n hn p h
 cases d with
 |zero=>simp[pos]at h;subst h;simp
 |succ d=>
  rw[pos,oU,if_neg (by omega)]at h;simp at h;subst h;simp
theorem aS1 {n:Nat}{t:List Nd}(h:Made d n t)(hd:d≤3):t.length≤60:=cO0 hd h.pos
variable {X:List CV}{L:List Int}{ob:Ob}
theorem aS2 {a m a':Nat}{t:List Nd}(h0:ob 0=some (.box 76 (.c (tp L a'))))(h1:ob 1=some (.row 89 7 X))(hm:m=(T++t).length)(hX:X=(T++t).map Nd.cv)(hM:Made d T.length t)(ha:a'≤a+aB d):
  iK 2 (.own 1 m) ob (fun r ob'=> ∃os',ob'=lst os'∧(2≤os'.length∧os'.length≤2+4)∧ ∃(t:List Nd) (a':Nat),r= .own 1 (T++t).length∧os'=[.box 76 (.c (tp L a')),.row 89 7 ((T++t).map Nd.cv)]∧Made d T.length t∧a'≤a+aB d):=by
 subst hm hX;exact gN [] [] (.own 1 (T++t).length) [.box 76 (.c (tp L a')),.row 89 7 ((T++t).map Nd.cv)] rfl (by simp[HV.men]) ⟨⟨by simp[HO.men,HV.men],by simp,_,h0,by simp[HO.close,HV.close,HO.ren,HV.ren,HV.norm,aM8,HV.toC,tp,CV.denil,CV.denilL,denilL_int]⟩,⟨by simp[HO.men],by simp,_,h1,rfl⟩,trivial⟩ rfl List.nodup_nil (by simp) (by simp) ⟨t,a',rfl,rfl,hM,ha⟩
theorem bZ5 (n:Nat)(ob:Ob)(e:TypeId)(sz:Nat)(v:CV)(L:List CV)(t:TypeId):iV (sub [0,1] n) ob 0 [.box t (.c v),.row e sz L]=upd (upd ob 0 (some (.box t (.c v)))) 1 (some (.row e sz L)):=rfl
theorem cH9 (n m:Nat):HV.ren (sub [0,1] n) (.own 1 m)= .own 1 m:=rfl
theorem cS5 (L:List Int)(a:Nat)(T:List Nd):lst [.box 76 (.c (tp L a)),.row 89 7 (T.map Nd.cv)]=fob [(0,.box 76 (.c (tp L a))),(1,.row 89 7 (T.map Nd.cv))]:=by
 funext i
 match i with
 |0=>rfl
 |1=>rfl
 |i+2=>simp[lst,fob,upd]
abbrev cV1 (L:List Int)(a d:Nat)(T:List Nd)(r:HV)(os':List HO):Prop:=
 ∃(t:List Nd) (a':Nat),r= .own 1 (T++t).length∧os'=[.box 76 (.c (tp L a')),.row 89 7 ((T++t).map Nd.cv)]∧Made d T.length t∧a'≤a+aB d
theorem cO1 (d:Nat): ∀(L:List Int) (a:Nat) (T:List Nd),d≤3→a+aB d<2^38→0<T.length→T.length<2^38→
  HGe Tryz.prog 36 [.ptr 0 0,.own 1 T.length,.c (.int .i64 d)] [.box 76 (.c (tp L a)),.row 89 7 (T.map Nd.cv)] (cV1 L a d T):=by
 induction d using Nat.strongRecOn with
 |ind d ih=>?_
 intro L a T hd ha hT0 hTl;refine bQ (args:=[.ptr 0 0,.own 1 T.length,.c (.int .i64 d)]) Tryz.func36 rfl (by kernel_rfl) (eS rfl (by simp[dL,HO.men,HV.men,HV.menL]) (by simp[HV.menL,HV.men])) (Nat.le_of_ble_eq_true rfl) ?_;show Hw _ _ 2 _ _ _ (lst _) 2;rw[cS5];have hab:=aS0 d hd;have hw1: ∀x:Int,0≤x→x<100→IntKind.i64.wrap (1+x)=1+x:=fun x h1 h2=>IntWalk.i64_in _ (by omega);have hw2: ∀x:Int,0≤x→x<100→IntKind.i64.wrap (2+x)=2+x:=fun x h1 h2=>IntWalk.i64_in _ (by omega);refine R0 ?_;refine aC fun K hK=>?_;refine aC fun K hK=>?_;have key: ∀(b:Bool) (a1:Nat) fr ob nx,(b=false→0<d∧T.length≤8)→a1≤a+1→Fits 2 fr ob (fin [(0,.ptr 0 0),(1,.own 1 T.length),(2,.c (.int .i64 d)),(20,.c (.bool b))]) (fob [(0,.box 76 (.c (tp L a1))),(1,.row 89 7 (T.map Nd.cv))]) 200→K fr ob nx:=by
  rintro b a1 fr ob nx hbf ha1 hf;refine hK _ _ _ (bO hf ?_);clear hf hK K;refine aJ (b:=b) rfl (fun hb=>?_) (fun hb=>?_)
  ·
   clear hbf;refine aC fun K hK=>Rg ?_;iterate 2 refine S0 ?_
   refine HS rfl rfl fun K' hK'=>T5 ?_;refine cN (args:=[]) (bD7 L a1 (by omega)) rfl (by simp) ⟨rfl,rfl,rfl,rfl⟩ ?_;rintro u v' ⟨q,a2,rfl,rfl,s1,s2⟩;refine AX (hK' _ _ ?_);clear hK' K';iterate 4 refine S0 ?_
   refine T2 (hK _ _ _ ?_);clear hK K;refine aH (RT Tryz.results36 ?_);have:=cJ4 d hd;exact aS2 (t:=[⟨1,0,0,q⟩]) rfl rfl (by simp) (by simp) (aD9 s2) (by omega)
  obtain⟨hd0,hT8⟩:=hbf hb;clear hbf hb;refine aN ?_;refine T0 (hK _ _ _ ?_);clear hK K;refine aC fun K hK=>Rg ?_;refine S0 ?_;refine HS rfl rfl fun K' hK'=>T5 ?_;refine cN (args:=[_]) (dQ L a1 3 (by omega) (by omega)) rfl (by simp) ⟨rfl,rfl,rfl,rfl⟩ ?_;rintro u v' ⟨x,a2,rfl,rfl,h1,h2,h3,h4⟩;refine AX (hK' _ _ ?_);clear hK' K';iterate 2 refine S0 ?_
  refine HS rfl rfl fun K' hK'=>T5 ?_;refine cN (args:=[_]) (dQ L a2 3 (by omega) (by omega)) rfl (by simp) ⟨rfl,rfl,rfl,rfl⟩ ?_;rintro u v' ⟨y,a3,rfl,rfl,g1,g2,g3,g4⟩;refine AX (hK' _ _ ?_);clear hK' K';iterate 4 refine S0 ?_
  refine T2 (hK _ _ _ ?_);clear hK K;refine aC fun K hK=>?_;have key2: ∀(k c N:Int) (a4:Nat) fr ob nx,(1≤c∧c≤3)→k≠1→cW ⟨k,N,c,rq0⟩=true→a4≤a+4→Fits 2 fr ob (fin [(0,.ptr 0 0),(1,.own 1 T.length),(2,.c (.int .i64 d)),(7,.ptr 228 0)]) (fob [(0,.box 76 (.c (tp L a4))),(1,.row 89 7 (T.map Nd.cv)),(228,.box 89 (.c (Nd.cv ⟨k,N,c,rq0⟩)))]) 700→K fr ob nx:=by
   rintro k c N a4 fr ob nx ⟨hc1,hc3⟩ hk1 hnode ha4 hf;refine hK _ _ _ (bO hf ?_);clear hf hK K;refine aC fun K hK=>Rg ?_;iterate 5 refine S0 ?_
   refine T2 (hK _ _ _ ?_);clear hK K;refine aC fun K hK=>?_;refine R0 ?_;refine aO ?_;refine bP (α:={w:List Nd×Nat×Nat//MadeK (d-1) T.length w.2.1 w.1∧w.2.2≤a+4+w.2.1*aB (d-1)∧(w.2.1:Int)≤c∧w.1.length≤60*w.2.1}) (fun w=>(fin [(0,.ptr 0 0),(1,.own 1 (T.length+1+w.1.1.length)),(2,.c (.int .i64 d)),(7,.ptr 228 0),(8,.c (.int .i64 w.1.2.1))],fob [(0,.box 76 (.c (tp L w.1.2.2))),(1,.row 89 7 ((T++⟨k,N,c,rq0⟩::w.1.1).map Nd.cv)),(228,.box 89 (.c (Nd.cv ⟨k,N,c,rq0⟩)))])) 2000 (fun w=>10-w.1.2.1) ⟨([],0,a4),MadeK.zero _ _,by simp only;omega,by simp only;omega,by simp⟩ (fF) ?_;rintro⟨⟨ts,j,a5⟩,i1,i2,i3,i4⟩;simp only at i1 i2 i3 i4;refine aC fun K hK=>?_;refine aC fun K hK=>Rg ?_;iterate 4 refine S0 ?_
   refine T2 (hK _ _ _ ?_);clear hK K;refine aJ (b:=decide ((j:Int)<c)) rfl (fun hb=>?_) (fun hb=>?_)
   ·
    have hjc:(j:Int)<c:=by simpa using hb
    clear hb;obtain⟨M,hM⟩: ∃M,M=T++⟨k,N,c,rq0⟩::ts:=⟨_,rfl⟩;have hMl:T.length+1+ts.length=M.length:=by rw[hM];simp;omega
    rw[←hM,hMl];have hwd:IntKind.i64.wrap ((d:Int)-1)=((d-1:Nat):Int):=by rw[IntWalk.i64_in _ (by omega)];omega
    have hab1:=aS0 (d-1) (by omega);have hj3:j≤2:=by omega
    have hja:j*aB (d-1)≤2*aB (d-1):=Nat.mul_le_mul_right _ hj3;have hdd:aB d=8+3*aB (d-1):=by
     obtain⟨e,rfl⟩: ∃e,d=e+1:=⟨d-1,by omega⟩;rfl
    refine aN ?_;refine T0 (hK _ _ _ ?_);clear hK K;refine aC fun K hK=>?_;refine aO ?_;refine Rg ?_;have F:=hwd;iterate 4 refine SF ?_
    refine HS rfl rfl fun K' hK'=>T6 ?_;refine eQ [0,1] (ih (d-1) (by omega) L a5 M (by omega) (by omega) (by omega) (by omega)) rfl ⟨rfl,rfl,trivial⟩ (by simp) (by simp) ⟨rfl,rfl,rfl,rfl⟩ (by simp[dL,HO.men,HV.men,HV.menL]) (by simp[HV.menL,HV.men]) ?_;rintro r os' ⟨t,a6,rfl,rfl,ht,ha6⟩;rw[bZ5,cH9];refine AX (hK' _ _ ?_);clear hK' K';refine SF ?_;refine T2 (hK _ _ _ ?_);clear hK K;refine aD (by kernel_rfl) ?_;refine TQ (IntWalk.i64_in ((j:Int)+1) (by omega)) ?_;have htl:=aS1 ht (by omega);have hnx:=i1.next (t:=t) (by rw[hMl];exact ht);refine⟨⟨(ts++t,j+1,a6),hnx,by simp only[Nat.add_mul,Nat.one_mul];omega,by simp only;omega,by simp only[List.length_append];omega⟩,?_,?_⟩
    ·
     have e1:M++t=T++⟨k,N,c,rq0⟩::(ts++t):=by rw[hM];simp
     have e2:(M++t).length=T.length+1+(ts++t).length:=by rw[e1];simp;omega
     simp only[];rw[←e1,←e2];exact fF
    show 10-(j+1)<10-j;omega
   have hjc:(j:Int)=c:=by simp at hb;omega
   have hj3:j≤3:=by omega
   have hja:j*aB (d-1)≤3*aB (d-1):=Nat.mul_le_mul_right _ hj3;obtain⟨d',rfl⟩: ∃d',d=d'+1:=⟨d-1,by omega⟩;simp only[Nat.add_sub_cancel]at i1 i2 hja;have hm:=i1.fin (x:=⟨k,N,c,rq0⟩) hT8 hnode hk1 hjc.symm (by omega) (by omega);refine bB (T3 ?_);clear hK K;refine AX (hK _ _ _ ?_);clear hK K;refine R0 ?_;refine aH (RT Tryz.results36 ?_);exact aS2 (t:=⟨k,N,c,rq0⟩::ts) rfl rfl (by simp;omega) rfl hm (by simp only[aB];omega)
  have hx3:=h4 (by omega);have hy3:=g4 (by omega);obtain⟨k,hk⟩: ∃k,k=IntKind.i64.wrap (2+x):=⟨_,rfl⟩;obtain⟨c,hc⟩: ∃c,c=IntKind.i64.wrap (1+y):=⟨_,rfl⟩;have hkx:k=2+x:=by rw[hk,hw2 x h2 (by omega)]
  have hcy:c=1+y:=by rw[hc,hw1 y g2 (by omega)]
  rw[←hk,←hc];clear hk hc h3 h4 g3 g4;refine R0 ?_;refine aJ (b:=_) rfl (fun hb=>?_) (fun hb=>?_)
  ·
   refine Rg ?_;iterate 3 refine S0 ?_
   refine HS rfl rfl fun K' hK'=>T5 ?_;refine cN (args:=[_]) (dQ L a3 c (by omega) (by omega)) rfl (by simp) ⟨rfl,rfl,rfl,rfl⟩ ?_;rintro u v' ⟨z,a4,rfl,rfl,f1,f2,f3,f4⟩;refine AX (hK' _ _ ?_);clear hK' K';iterate 3 refine S0 ?_
   refine T4 ?_;have f5:=f4 (by omega);have hk4:k=4:=by simpa using hb
   exact key2 k c (IntKind.i64.wrap (1+z)) a4 _ _ _ ⟨by omega,by omega⟩ (by omega) (by rw[hw1 z f2 (by omega),cW,if_neg (by simp only;omega),if_neg (by simp only;omega),if_pos hk4];simp[inB,fS];omega) (by omega) (aM (by omega) (by simp[aW,fin_at,finA_at,upd_at,HV.men,HV.menL,HV.norm,HV.toC,HV.toCL,Nd.cv,rq0]) (by simp[aX,fob_at,upd_at,none0_at,bI,HO.men,HV.men,HV.menL,HV.norm,HV.toC,HV.toCL,Nd.cv,rq0]))
  refine aN (T3 ?_);have hk4: ¬k=4:=by simpa using hb
  exact key2 k c 0 a3 _ _ _ ⟨by omega,by omega⟩ (by omega) (by rw[cW,if_neg (by simp only;omega),if_pos (by simp only;omega)];simp[inB,fS];omega) (by omega) (aM (by omega) (by simp[aW,fin_at,finA_at,upd_at,HV.men,HV.menL,HV.norm,HV.toC,HV.toCL,Nd.cv,rq0]) (by simp[aX,fob_at,upd_at,none0_at,bI,HO.men,HV.men,HV.menL,HV.norm,HV.toC,HV.toCL,Nd.cv,rq0]))
 refine Rg ?_;iterate 3 refine S0 ?_
 refine aG 10 rfl (fun h1_10=>?_) (fun h1_10=>?_)
 ·
  have F:=h1_10;iterate 9 refine SF ?_
  refine T4 ?_;exact key true a _ _ _ (fun h=>by cases h) (by omega) (fF)
 have F:=h1_10;refine SF ?_;refine aE (g:=some (11,false)) rfl rfl fun K' hK'=>T6 ?_;refine cN (args:=[_]) (dQ L a 3 (by omega) (by omega)) rfl (by simp) ⟨rfl,rfl,rfl,rfl⟩ ?_;rintro u v' ⟨x,a1,rfl,rfl,h1,h2,h3,h4⟩;refine AX (hK' _ _ ?_);clear hK' K';iterate 3 refine SF ?_
 refine aG 14 rfl (fun h1_14=>?_) (fun h1_14=>?_)
 ·
  have F:=aI h1_10 h1_14;iterate 4 refine SF ?_
  refine T4 ?_;exact key true a1 _ _ _ (fun h=>by cases h) h1 (fF)
 have F:=aI h1_10 h1_14;iterate 4 refine SF ?_
 refine aG 19 rfl (fun h1_19=>?_) (fun h1_19=>?_)
 · simp only[h1_19];refine T4 ?_;exact key true a1 _ _ _ (fun h=>by cases h) h1 (fF)
 simp only[h1_19];refine T4 ?_;exact key false a1 _ _ _ (fun _=>⟨by simp at h1_10;omega,by simp at h1_19;omega⟩) h1 (fF)
theorem bM4 (N n:Nat)(ob:Ob)(e:TypeId)(sz:Nat)(v:CV)(L:List CV)(t:TypeId):iV (sub [0,N] n) ob 0 [.box t (.c v),.row e sz L]=upd (upd ob 0 (some (.box t (.c v)))) N (some (.row e sz L)):=rfl
theorem bZ6 (N n m:Nat):HV.ren (sub [0,N] n) (.own 1 m)= .own N m:=rfl
theorem cS6 (L:List Int)(a:Nat):lst [.box 76 (.c (tp L a))]=fob [(0,.box 76 (.c (tp L a)))]:=by
 funext i
 match i with
 |0=>rfl
 |i+1=>simp[lst,fob,upd]
abbrev MkR (L:List Int)(a d:Nat)(r:HV)(os':List HO):Prop:=
 ∃(t:List Nd) (a':Nat),r= .own 1 t.length∧os'=[.box 76 (.c (tp L a')),.row 89 7 (t.map Nd.cv)]∧Made d 0 t∧a'≤a+aB d
theorem aE6 {a m a':Nat}{t:List Nd}(N:Nat)(hN:1≤N)(h0:ob 0=some (.box 76 (.c (tp L a'))))(h1:ob N=some (.row 89 7 X))(hm:m=t.length)(hX:X=t.map Nd.cv)(hM:Made d 0 t)(ha:a'≤a+aB d):
  iK 1 (.own N m) ob (fun r ob'=> ∃os',ob'=lst os'∧(1≤os'.length∧os'.length≤1+4)∧ ∃(t:List Nd) (a':Nat),r= .own 1 t.length∧os'=[.box 76 (.c (tp L a')),.row 89 7 (t.map Nd.cv)]∧Made d 0 t∧a'≤a+aB d):=by
 subst hm hX;have e1:tau 1 [N] 1=N:=rfl;exact gN [] [N] (.own 1 t.length) [.box 76 (.c (tp L a')),.row 89 7 (t.map Nd.cv)] (by simp[HV.close,HV.norm,HV.toC,HV.ren,e1]) (by simp[HV.men]) ⟨⟨by simp[HO.men,HV.men],by simp,_,h0,by simp[HO.close,HV.close,HO.ren,HV.ren,HV.norm,aM8,HV.toC,tp,CV.denil,CV.denilL,denilL_int]⟩,⟨by simp[HO.men],by simp,_,h1,rfl⟩,trivial⟩ rfl (by simp) (by simpa using hN) (by simp) ⟨t,a',rfl,rfl,hM,ha⟩
theorem cI0 (d:Nat)(L:List Int)(a:Nat)(hd:d≤3)(ha:a+aB d<2^38):
  HGe Tryz.prog 36 [.ptr 0 0,.c .nils,.c (.int .i64 d)] [.box 76 (.c (tp L a))] (MkR L a d):=by
 refine bQ (args:=[.ptr 0 0,.c .nils,.c (.int .i64 d)]) Tryz.func36 rfl (by kernel_rfl) (eS rfl (by simp[dL,HO.men,HV.men,HV.menL]) (by simp[HV.menL,HV.men])) (Nat.le_of_ble_eq_true rfl) ?_;show Hw _ _ 1 _ _ _ (lst _) 1;rw[cS6];have hab:=aS0 d hd;have hw1: ∀x:Int,0≤x→x<100→IntKind.i64.wrap (1+x)=1+x:=fun x h1 h2=>IntWalk.i64_in _ (by omega);have hw2: ∀x:Int,0≤x→x<100→IntKind.i64.wrap (2+x)=2+x:=fun x h1 h2=>IntWalk.i64_in _ (by omega);refine R0 ?_;refine aC fun K hK=>?_;refine aC fun K hK=>?_;have key: ∀(b:Bool) (a1:Nat) fr ob nx,(b=false→0<d)→a1≤a+1→Fits 1 fr ob (fin [(0,.ptr 0 0),(1,.c .nils),(2,.c (.int .i64 d)),(20,.c (.bool b))]) (fob [(0,.box 76 (.c (tp L a1)))]) 200→K fr ob nx:=by
  rintro b a1 fr ob nx hbf ha1 hf;refine hK _ _ _ (bO hf ?_);clear hf hK K;refine aJ (b:=b) rfl (fun hb=>?_) (fun hb=>?_)
  ·
   clear hbf;refine aC fun K hK=>Rg ?_;iterate 2 refine S0 ?_
   refine HS rfl rfl fun K' hK'=>T5 ?_;refine cN (args:=[]) (bD7 L a1 (by omega)) rfl (by simp) ⟨rfl,rfl,rfl,rfl⟩ ?_;rintro u v' ⟨q,a2,rfl,rfl,s1,s2⟩;refine AX (hK' _ _ ?_);clear hK' K';iterate 4 refine S0 ?_
   refine T2 (hK _ _ _ ?_);clear hK K;refine aH (RT Tryz.results36 ?_);have:=cJ4 d hd;exact aE6 220 (by decide) (t:=[⟨1,0,0,q⟩]) rfl rfl (by simp) (by simp) (aD9 s2) (by omega)
  have hd0:=hbf hb;clear hbf hb;refine aN ?_;refine T0 (hK _ _ _ ?_);clear hK K;refine aC fun K hK=>Rg ?_;refine S0 ?_;refine HS rfl rfl fun K' hK'=>T5 ?_;refine cN (args:=[_]) (dQ L a1 3 (by omega) (by omega)) rfl (by simp) ⟨rfl,rfl,rfl,rfl⟩ ?_;rintro u v' ⟨x,a2,rfl,rfl,h1,h2,h3,h4⟩;refine AX (hK' _ _ ?_);clear hK' K';iterate 2 refine S0 ?_
  refine HS rfl rfl fun K' hK'=>T5 ?_;refine cN (args:=[_]) (dQ L a2 3 (by omega) (by omega)) rfl (by simp) ⟨rfl,rfl,rfl,rfl⟩ ?_;rintro u v' ⟨y,a3,rfl,rfl,g1,g2,g3,g4⟩;refine AX (hK' _ _ ?_);clear hK' K';iterate 4 refine S0 ?_
  refine T2 (hK _ _ _ ?_);clear hK K;refine aC fun K hK=>?_;have key2: ∀(k c N:Int) (a4:Nat) fr ob nx,(1≤c∧c≤3)→k≠1→cW ⟨k,N,c,rq0⟩=true→a4≤a+4→Fits 1 fr ob (fin [(0,.ptr 0 0),(1,.c .nils),(2,.c (.int .i64 d)),(7,.ptr 228 0)]) (fob [(0,.box 76 (.c (tp L a4))),(228,.box 89 (.c (Nd.cv ⟨k,N,c,rq0⟩)))]) 700→K fr ob nx:=by
   rintro k c N a4 fr ob nx ⟨hc1,hc3⟩ hk1 hnode ha4 hf;refine hK _ _ _ (bO hf ?_);clear hf hK K;refine aC fun K hK=>Rg ?_;iterate 5 refine S0 ?_
   refine T2 (hK _ _ _ ?_);clear hK K;refine aC fun K hK=>?_;refine R0 ?_;refine aO ?_;refine bP (α:={w:List Nd×Nat×Nat//MadeK (d-1) 0 w.2.1 w.1∧w.2.2≤a+4+w.2.1*aB (d-1)∧(w.2.1:Int)≤c∧w.1.length≤60*w.2.1}) (fun w=>(fin [(0,.ptr 0 0),(1,.own 712 (1+w.1.1.length)),(2,.c (.int .i64 d)),(7,.ptr 228 0),(8,.c (.int .i64 w.1.2.1))],fob [(0,.box 76 (.c (tp L w.1.2.2))),(712,.row 89 7 ((⟨k,N,c,rq0⟩::w.1.1:List Nd).map Nd.cv)),(228,.box 89 (.c (Nd.cv ⟨k,N,c,rq0⟩)))])) 2000 (fun w=>10-w.1.2.1) ⟨([],0,a4),MadeK.zero _ _,by simp only;omega,by simp only;omega,by simp⟩ (fF) ?_;rintro⟨⟨ts,j,a5⟩,i1,i2,i3,i4⟩;simp only at i1 i2 i3 i4;refine aC fun K hK=>?_;refine aC fun K hK=>Rg ?_;iterate 4 refine S0 ?_
   refine T2 (hK _ _ _ ?_);clear hK K;refine aJ (b:=decide ((j:Int)<c)) rfl (fun hb=>?_) (fun hb=>?_)
   ·
    have hjc:(j:Int)<c:=by simpa using hb
    clear hb;obtain⟨M,hM⟩: ∃M:List Nd,M=⟨k,N,c,rq0⟩::ts:=⟨_,rfl⟩;have hMl:1+ts.length=M.length:=by rw[hM];simp;omega
    have hMm:Nd.cv ⟨k,N,c,rq0⟩::List.map Nd.cv ts=List.map Nd.cv M:=by rw[hM];rfl
    rw[hMm,hMl];have hwd:IntKind.i64.wrap ((d:Int)-1)=((d-1:Nat):Int):=by rw[IntWalk.i64_in _ (by omega)];omega
    have hab1:=aS0 (d-1) (by omega);have hj3:j≤2:=by omega
    have hja:j*aB (d-1)≤2*aB (d-1):=Nat.mul_le_mul_right _ hj3;have hdd:aB d=8+3*aB (d-1):=by
     obtain⟨e,rfl⟩: ∃e,d=e+1:=⟨d-1,by omega⟩;rfl
    refine aN ?_;refine T0 (hK _ _ _ ?_);clear hK K;refine aC fun K hK=>?_;refine aO ?_;refine Rg ?_;have F:=hwd;iterate 4 refine SF ?_
    refine HS rfl rfl fun K' hK'=>T6 ?_;refine eQ [0,712] (cO1 (d-1) L a5 M (by omega) (by omega) (by omega) (by omega)) rfl ⟨rfl,rfl,trivial⟩ (by simp) (by simp) ⟨rfl,rfl,rfl,rfl⟩ (by simp[dL,HO.men,HV.men,HV.menL]) (by simp[HV.menL,HV.men]) ?_;rintro r os' ⟨t,a6,rfl,rfl,ht,ha6⟩;rw[bM4,bZ6];refine AX (hK' _ _ ?_);clear hK' K';refine SF ?_;refine T2 (hK _ _ _ ?_);clear hK K;refine aD (by kernel_rfl) ?_;refine TQ (IntWalk.i64_in ((j:Int)+1) (by omega)) ?_;have htl:=aS1 ht (by omega);have hnx:=i1.next (t:=t) (by rw[Nat.zero_add,hMl];exact ht);refine⟨⟨(ts++t,j+1,a6),hnx,by simp only[Nat.add_mul,Nat.one_mul];omega,by simp only;omega,by simp only[List.length_append];omega⟩,?_,?_⟩
    ·
     have e1:Nd.cv ⟨k,N,c,rq0⟩::List.map Nd.cv (ts++t)=List.map Nd.cv (M++t):=by rw[hM];simp
     have e2:(M++t).length=1+(ts++t).length:=by rw[hM];simp;omega
     simp only[];rw[e1,←e2];exact fF
    show 10-(j+1)<10-j;omega
   have hjc:(j:Int)=c:=by simp at hb;omega
   have hj3:j≤3:=by omega
   have hja:j*aB (d-1)≤3*aB (d-1):=Nat.mul_le_mul_right _ hj3;obtain⟨d',rfl⟩: ∃d',d=d'+1:=⟨d-1,by omega⟩;simp only[Nat.add_sub_cancel]at i1 i2 hja;have hm:=i1.fin (x:=⟨k,N,c,rq0⟩) (by omega) hnode hk1 hjc.symm (by omega) (by omega);refine bB (T3 ?_);clear hK K;refine AX (hK _ _ _ ?_);clear hK K;refine R0 ?_;refine aH (RT Tryz.results36 ?_);exact aE6 712 (by decide) (t:=⟨k,N,c,rq0⟩::ts) rfl rfl (by simp;omega) rfl hm (by simp only[aB];omega)
  have hx3:=h4 (by omega);have hy3:=g4 (by omega);obtain⟨k,hk⟩: ∃k,k=IntKind.i64.wrap (2+x):=⟨_,rfl⟩;obtain⟨c,hc⟩: ∃c,c=IntKind.i64.wrap (1+y):=⟨_,rfl⟩;have hkx:k=2+x:=by rw[hk,hw2 x h2 (by omega)]
  have hcy:c=1+y:=by rw[hc,hw1 y g2 (by omega)]
  rw[←hk,←hc];clear hk hc h3 h4 g3 g4;refine R0 ?_;refine aJ (b:=_) rfl (fun hb=>?_) (fun hb=>?_)
  ·
   refine Rg ?_;iterate 3 refine S0 ?_
   refine HS rfl rfl fun K' hK'=>T5 ?_;refine cN (args:=[_]) (dQ L a3 c (by omega) (by omega)) rfl (by simp) ⟨rfl,rfl,rfl,rfl⟩ ?_;rintro u v' ⟨z,a4,rfl,rfl,f1,f2,f3,f4⟩;refine AX (hK' _ _ ?_);clear hK' K';iterate 3 refine S0 ?_
   refine T4 ?_;have f5:=f4 (by omega);have hk4:k=4:=by simpa using hb
   exact key2 k c (IntKind.i64.wrap (1+z)) a4 _ _ _ ⟨by omega,by omega⟩ (by omega) (by rw[hw1 z f2 (by omega),cW,if_neg (by simp only;omega),if_neg (by simp only;omega),if_pos hk4];simp[inB,fS];omega) (by omega) (aM (by omega) (by simp[aW,fin_at,finA_at,upd_at,HV.men,HV.menL,HV.norm,HV.toC,HV.toCL,Nd.cv,rq0]) (by simp[aX,fob_at,upd_at,none0_at,bI,HO.men,HV.men,HV.menL,HV.norm,HV.toC,HV.toCL,Nd.cv,rq0]))
  refine aN (T3 ?_);have hk4: ¬k=4:=by simpa using hb
  exact key2 k c 0 a3 _ _ _ ⟨by omega,by omega⟩ (by omega) (by rw[cW,if_neg (by simp only;omega),if_pos (by simp only;omega)];simp[inB,fS];omega) (by omega) (aM (by omega) (by simp[aW,fin_at,finA_at,upd_at,HV.men,HV.menL,HV.norm,HV.toC,HV.toCL,Nd.cv,rq0]) (by simp[aX,fob_at,upd_at,none0_at,bI,HO.men,HV.men,HV.menL,HV.norm,HV.toC,HV.toCL,Nd.cv,rq0]))
 refine Rg ?_;iterate 3 refine S0 ?_
 refine aG 10 rfl (fun h1_10=>?_) (fun h1_10=>?_)
 ·
  have F:=h1_10;iterate 9 refine SF ?_
  refine T4 ?_;exact key true a _ _ _ (fun h=>by cases h) (by omega) (fF)
 have F:=h1_10;refine SF ?_;refine aE (g:=some (11,false)) rfl rfl fun K' hK'=>T6 ?_;refine cN (args:=[_]) (dQ L a 3 (by omega) (by omega)) rfl (by simp) ⟨rfl,rfl,rfl,rfl⟩ ?_;rintro u v' ⟨x,a1,rfl,rfl,h1,h2,h3,h4⟩;refine AX (hK' _ _ ?_);clear hK' K';iterate 3 refine SF ?_
 refine aG 14 rfl (fun h1_14=>?_) (fun h1_14=>?_)
 ·
  have F:=aI h1_10 h1_14;iterate 4 refine SF ?_
  refine T4 ?_;exact key true a1 _ _ _ (fun h=>by cases h) h1 (fF)
 have F:=aI h1_10 h1_14;refine SF ?_;refine aE (g:=some (16,false)) rfl rfl fun K' hK'=>T6 ?_;obtain⟨z,hz⟩: ∃z:Int,z=0:=⟨_,rfl⟩;rw[←hz];refine AX (hK' _ _ ?_);clear hK' K';iterate 2 refine SF ?_
 refine aG 19 rfl (fun h1_19=>?_) (fun h1_19=>?_)
 · simp only[h1_19];refine T4 ?_;exact key true a1 _ _ _ (fun h=>by cases h) h1 (fF)
 simp only[h1_19];refine T4 ?_;exact key false a1 _ _ _ (fun _=>(by simp at h1_10;omega)) h1 (fF)
theorem cI1 (n:Nat)(ob:Ob)(e:TypeId)(sz:Nat)(v:CV)(L:List CV)(t:TypeId):iV (sub [0] n) ob 0 [.box t (.c v),.row e sz L]=upd (upd ob 0 (some (.box t (.c v)))) n (some (.row e sz L)):=rfl
theorem cO2 (n m:Nat):HV.ren (sub [0] n) (.own 1 m)= .own n m:=rfl
theorem bM5 (L:List Int)(a:Nat)(ha:a<2^37):bF3 Tryz.prog 11 76 (tp L a) [] (fun u v'=> ∃(t:List Nd) (a':Nat),u= .slc (t.map Nd.cv)∧v'=tp L a'∧Made 3 0 t∧a'≤a+400):=by
 refine bQ Tryz.func11 rfl (by kernel_rfl) (jO _ _ _) (Nat.le_of_ble_eq_true rfl) ?_;have hab:=aS0 3 (by decide);refine R0 ?_;refine aC fun K hK=>cH (by kernel_rfl) ?_;simp only[sR,simprocAttr];refine SG0 ?_;refine uP (g:=none) rfl rfl fun K' hK'=>?_;simp only[sN,↓hopH.eq_def,sH,↓sP,sA,tyS,simprocAttr];refine eQ [0] (cI0 3 L a (by decide) (by omega)) rfl ⟨rfl,trivial⟩ (by simp) (by simp) ⟨rfl,rfl,rfl,rfl⟩ (by simp[dL,HO.men,HV.men,HV.menL]) (by simp[HV.menL,HV.men]) ?_;rintro r os' ⟨t,a',rfl,rfl,ht,ha'⟩;rw[cI1,cO2];refine AX (hK' _ _ ?_);clear hK' K';refine SG0 ?_;refine T2 (hK _ _ _ ?_);clear hK K;refine aH (RT Tryz.results11 ?_);exact lM [9] (.slc (t.map Nd.cv)) (tp L a') (by simp[HV.close,HV.closeL,CV.denil,CV.denilL,denilL_Nd,HV.norm,HV.toC,HV.toCL,fob_at,upd_at]) rfl (by simp[HV.close,HV.closeL,tp,CV.denil,CV.denilL,denilL_int,HV.norm,HV.toC,HV.toCL]) (by simp) ⟨t,a',rfl,rfl,ht,by omega⟩
end Go.Proofs.YthedbjfipmkpiaaGreatDoor
namespace Go.Pl
open Go Go.Hl
end Go.Pl
namespace Go.Proofs.YthedbjfipmkpiaaGreatDoor
open Go Go.Hl Go.Pl
set_option maxRecDepth 10000
set_option maxHeartbeats 16000000
theorem aS3 (L:List Int)(a:Nat)(T:List Nd)(hn: ∀n∈T,n.q.t.length<2^63)(hlv:(dE T).length≤16)(odds:Int)(ho:odds<2^40)(ha:a<2^38):bF3 Tryz.prog 12 76 (tp L a) [.slc (T.map Nd.cv),.int .i64 odds] (fun u v'=> ∃(S:List Sp) (a':Nat),u= .slc (S.map Sp.cv)∧v'=tp L a'∧S.length=(dE T).length∧(∀x∈S,x.d.length≤2)∧a'≤a+64):=by
 refine bQ Tryz.func12 rfl (by kernel_rfl) (jO _ _ _) (Nat.le_of_ble_eq_true rfl) ?_;refine aC fun K hK=>aD (by kernel_rfl) ?_;simp (maxSteps:=4000000) only[↓sP,sA,tyS,simprocAttr];repeat refine AI ?_
 refine hK _ _ _ ?_;clear hK K;refine aC fun K hK=>aD (by kernel_rfl) ?_;simp (maxSteps:=4000000) only[↓sP,sA,tyS,simprocAttr];repeat refine AI ?_
 refine hK _ _ _ ?_;clear hK K;refine aC fun K hK=>?_;refine aC fun K hK=>aD (by kernel_rfl) ?_;simp (maxSteps:=4000000) only[↓sP,sA,tyS,simprocAttr];repeat refine AI ?_
 refine hK _ _ _ ?_;clear hK K;refine aO ?_;refine iZ 7 0 64 3 rfl rfl rfl rfl ?_;refine bP (α:={y:Nat×List Sp×Nat//y.1≤(dE T).length∧y.2.1.length=y.1∧(∀x∈y.2.1,x.d.length≤2)∧y.2.2≤a+4*y.1}) (fun y=>(fin [(0,.ptr 0 0),(1,.c (.slc (T.map Nd.cv))),(2,.c (.int .i64 odds)),(7,.own 13 y.1.2.1.length),(8,.c (.int .i64 y.1.1))],fob [(0,.box 76 (.c (tp L y.1.2.2))),(13,.row 64 3 (y.1.2.1.map Sp.cv))])) 200 (fun y=>(dE T).length-y.1.1) ⟨(0,[],a),by simp,rfl,by simp,by simp⟩ (aM (by omega) (by simp[aW,fin_at,finA_at,upd_at,HV.men,HV.menL,HV.norm,HV.toC,HV.toCL]) (by simp[aX,fob_at,upd_at,none0_at,bI,HO.men,HV.men,HV.menL,HV.norm,HV.toC,HV.toCL])) ?_;rintro⟨⟨i,S,b⟩,hi,hS,hd,hbb⟩;simp only at hi hS hd hbb⊢;refine aC fun K hK=>?_;refine aC fun K hK=>aD (by kernel_rfl) ?_;simp only[sR,simprocAttr];iterate 2
  (refine aE (g:=none) rfl rfl fun K' hK'=>?_;simp only[sH,↓sP,sA,tyS,simprocAttr,denilL_Nd,List.length_map];(repeat refine AI ?_);refine hK' _ _ ?_;clear hK' K')
 refine aE (g:=none) rfl rfl fun K' hK'=>?_;simp (maxSteps:=4000000) only[sH,↓sP,sA,tyS,simprocAttr,denilL_Nd,List.length_map];refine cB (args:=[_]) (tY T hn) ⟨rfl,rfl,rfl,rfl⟩ ?_;rintro u rfl;repeat refine AI ?_
 refine hK' _ _ ?_;clear hK' K';iterate 2
  (refine aE (g:=none) rfl rfl fun K' hK'=>?_;simp only[sH,↓sP,sA,tyS,simprocAttr,denilL_Nd,List.length_map];(repeat refine AI ?_);refine hK' _ _ ?_;clear hK' K')
 simp only[sE,↓reduceIte,simprocAttr];repeat refine AI ?_
 refine hK _ _ _ ?_;clear hK K;refine aJ (b:=decide ((i:Int)<(dE T).length)) rfl (fun hb=>?_) (fun hb=>?_)
 ·
  have hlt:i<(dE T).length:=by have:=of_decide_eq_true hb;omega
  clear hb;refine aN ?_;simp (maxSteps:=4000000) only[↓sP,sA,tyS,simprocAttr];repeat refine AI ?_
  refine hK _ _ _ ?_;clear hK K;refine aC fun K hK=>?_;refine aO ?_;refine aC fun K hK=>aD (by kernel_rfl) ?_;simp only[sR,simprocAttr];iterate 2
   (refine aE (g:=none) rfl rfl fun K' hK'=>?_;simp only[sH,↓sP,sA,tyS,simprocAttr];(repeat refine AI ?_);refine hK' _ _ ?_;clear hK' K')
  refine aE (g:=none) rfl rfl fun K' hK'=>?_;simp (maxSteps:=4000000) only[sH,↓sP,sA,tyS,simprocAttr];refine cN (args:=[_]) (dQ L b odds (by omega) (by omega)) rfl (by simp) ⟨rfl,rfl,rfl,rfl⟩ ?_;rintro u v' ⟨x,a1,rfl,rfl,h1,h2,h3,h4⟩;repeat refine AI ?_
  refine hK' _ _ ?_;clear hK' K';iterate 4
   (refine aE (g:=none) rfl rfl fun K' hK'=>?_;simp only[sH,↓sP,sA,tyS,simprocAttr];(repeat refine AI ?_);refine hK' _ _ ?_;clear hK' K')
  simp only[sE,↓reduceIte,simprocAttr];repeat refine AI ?_
  refine hK _ _ _ ?_;clear hK K;refine aC fun K hK=>?_;refine aC fun K hK=>aD (by kernel_rfl) ?_;simp only[sR,simprocAttr];refine aE (g:=none) rfl rfl fun K' hK'=>?_;simp (maxSteps:=4000000) only[sH,↓sP,sA,tyS,simprocAttr];repeat refine AI ?_
  refine hK' _ _ ?_;clear hK' K';refine aE (g:=none) rfl rfl fun K' hK'=>?_;simp (maxSteps:=4000000) only[sH,↓sP,sA,tyS,simprocAttr];refine cN (args:=[_]) (dQ L a1 3 (by omega) (by omega)) rfl (by simp) ⟨rfl,rfl,rfl,rfl⟩ ?_;rintro u v' ⟨y,a2,rfl,rfl,g1,g2,g3,g4⟩;obtain⟨m,rfl⟩: ∃m:Nat,y=m:=⟨y.toNat,by omega⟩;have hm:m≤2:=by have:=g4 (by omega);omega
  clear g2 g3 g4;repeat refine AI ?_
  refine hK' _ _ ?_;clear hK' K';refine aE (g:=none) rfl rfl fun K' hK'=>?_;simp (maxSteps:=4000000) only[sH,↓sP,sA,tyS,simprocAttr];repeat refine AI ?_
  refine hK' _ _ ?_;clear hK' K';simp only[sE,↓reduceIte,simprocAttr];repeat refine AI ?_
  refine hK _ _ _ ?_;clear hK K;refine aO ?_;obtain⟨hh,hhe⟩: ∃c,c=decide (0<x):=⟨_,rfl⟩;rw[←hhe];refine fC [] ?_;refine bP (α:={z:Nat×List Dig×Nat//z.1+z.2.1.length≤2∧z.2.2+z.1≤a2+2}) (fun z=>(fin [(0,.ptr 0 0),(1,.c (.slc (T.map Nd.cv))),(2,.c (.int .i64 odds)),(7,.own 13 S.length),(8,.c (.int .i64 i)),(9,.ptr 240 0),(10,.c (.int .i64 z.1.1))],fob [(0,.box 76 (.c (tp L z.1.2.2))),(13,.row 64 3 (S.map Sp.cv)),(240,.box 64 (.c (Sp.cv ⟨hh,z.1.2.1,0⟩)))])) 500 (fun z=>z.1.1) ⟨(m,[],a2),by simp;omega,by simp;omega⟩ (aM (by omega) (by simp[aW,fin_at,finA_at,upd_at,HV.men,HV.menL,HV.norm,HV.toC,HV.toCL,fJ,gZ,HO.close,HV.close,HV.closeL,tp,CV.denil,CV.denilL,denilL_int,denilL_Nd,Sp.cv]) (by simp[aX,fob_at,upd_at,none0_at,bI,HO.men,HV.men,HV.menL,HV.norm,HV.toC,HV.toCL,fJ,gZ,HO.close,HV.close,HV.closeL,tp,CV.denil,CV.denilL,denilL_int,denilL_Nd,Sp.cv])) ?_;rintro⟨⟨n,D,a3⟩,hz1,hz2⟩;simp only at hz1 hz2⊢;refine aC fun K hK=>?_;refine aC fun K hK=>aD (by kernel_rfl) ?_;simp only[sR,simprocAttr];iterate 3
   (refine aE (g:=none) rfl rfl fun K' hK'=>?_;simp only[sH,↓sP,sA,tyS,simprocAttr];(repeat refine AI ?_);refine hK' _ _ ?_;clear hK' K')
  refine aG 26 rfl (fun h7_26=>?_) (fun h7_26=>?_)
  ·
   iterate 2
    (refine aE (g:=some (27,true)) rfl rfl fun K' hK'=>?_;simp only[sH,↓sP,sA,tyS,simprocAttr,h7_26];(repeat refine AI ?_);refine hK' _ _ ?_;clear hK' K')
   refine aE (g:=none) rfl rfl fun K' hK'=>?_;simp (maxSteps:=4000000) only[sH,↓sP,sA,tyS,simprocAttr,h7_26];repeat refine AI ?_
   refine hK' _ _ ?_;clear hK' K';refine aG 29 rfl (fun h7_29=>?_) (fun h7_29=>?_)
   ·
    simp only[h7_29];simp only[sE,↓reduceIte,simprocAttr];repeat refine AI ?_
    refine hK _ _ _ ?_;clear hK K;refine aJ (b:=true) rfl (fun hb=>?_) (fun hb=>?_)
    ·
     refine aN ?_;simp (maxSteps:=4000000) only[↓sP,sA,tyS,simprocAttr];repeat refine AI ?_
     refine hK _ _ _ ?_;clear hK K;refine aC fun K hK=>?_;refine aO ?_;refine lL mixed [(0,[],[]),(1,[],[]),(2,[],[]),(3,[],[0,1]),(4,[],[]),(5,[],[]),(6,[],[]),(7,[],[]),(8,[],[]),(9,[],[])] [0,1,0,4,12,28,60,127,255,511] (by kernel_rfl) (by kernel_rfl) (by kernel_rfl) (by kernel_rfl) rfl (by kernel_rfl) ?_;iterate 3
      (refine aV (g:=none) rfl rfl fun K' hK'=>?_;simp only[sH,↓sP,sA,tyS,simprocAttr,denilL_dg,h7_26,h7_29];(repeat refine AI ?_);refine hK' _ _ ?_;clear hK' K')
     refine aV (g:=none) rfl rfl fun K' hK'=>?_;simp (maxSteps:=4000000) only[sH,↓sP,sA,tyS,simprocAttr,denilL_dg,h7_26,h7_29];refine cN (args:=[_]) (dQ L a3 9 (by omega) (by omega)) rfl (by simp) ⟨rfl,rfl,rfl,rfl⟩ ?_;rintro u v' ⟨x2,a4,rfl,rfl,k1,k2,k3,k4⟩;have hx2:=k4 (by omega);have e1:IntKind.i64.wrap (1+x2)=1+x2:=IntWalk.i64_in _ (by omega);have e2:IntKind.u8.wrap (1+x2)=1+x2:=IntWalk.u8_in _ (by omega);repeat refine AI ?_
     refine hK' _ _ ?_;clear hK' K';iterate 3
      (refine aV (g:=none) rfl rfl fun K' hK'=>?_;simp only[sH,↓sP,sA,tyS,simprocAttr,denilL_dg,e1,e2,h7_26,h7_29];(repeat refine AI ?_);refine hK' _ _ ?_;clear hK' K')
     refine aV (g:=none) rfl rfl fun K' hK'=>?_;simp (maxSteps:=4000000) only[sH,↓sP,sA,tyS,simprocAttr,denilL_dg,e1,e2,h7_26,h7_29];rw[bF4 (show 0≤1+x2 by omega) (by omega)];refine cB (args:=[_,_]) (cH1 D (dg1 (UInt8.ofNat (1+x2).toNat)) (by omega)) ⟨rfl,rfl,rfl,rfl⟩ ?_;rintro u ⟨Q,rfl,hQ⟩;have hQl:Q.length≤D.length+1:=by
      have h1:=bO7 (dws D) (dg1 (UInt8.ofNat (1+x2).toNat)).1;rw[←hQ,fO,fO]at h1;exact h1
     repeat refine AI ?_
     refine hK' _ _ ?_;clear hK' K';iterate 2
      (refine aV (g:=none) rfl rfl fun K' hK'=>?_;simp only[sH,↓sP,sA,tyS,simprocAttr,denilL_dg,e1,e2,h7_26,h7_29];(repeat refine AI ?_);refine hK' _ _ ?_;clear hK' K')
     simp only[sE,↓reduceIte,simprocAttr];repeat refine AI ?_
     refine hK _ _ _ ?_;clear hK K;refine aD (by kernel_rfl) ?_;simp (maxSteps:=4000000) only[↓sP,sA,tyS,simprocAttr];have hnp:0<n:=by have:=of_decide_eq_true h7_26;omega
     have ew:IntKind.i64.wrap ((n:Int)-1)=((n-1:Nat):Int):=by rw[IntWalk.i64_in _ (by omega)];omega
     subst h7_29;rw[ew];refine⟨⟨(n-1,Q,a4),by simp only;omega,by simp only;omega⟩,aM (by omega) (by simp[aW,fin_at,finA_at,upd_at,HV.men,HV.menL,HV.norm,HV.toC,HV.toCL]) (by simp[aX,fob_at,upd_at,none0_at,bI,HO.men,HV.men,HV.menL,HV.norm,HV.toC,HV.toCL]),by simp only;omega⟩
    cases hb
   simp only[h7_29];simp only[sE,↓reduceIte,simprocAttr];repeat refine AI ?_
   refine hK _ _ _ ?_;clear hK K;refine aJ (b:=false) rfl (fun hb=>?_) (fun hb=>?_)
   · cases hb
   refine bB ?_;simp (maxSteps:=4000000) only[↓sP,sA,tyS,simprocAttr];clear hK K;repeat refine AI ?_
   refine hK _ _ _ ?_;clear hK K;refine aD (by kernel_rfl) ?_;simp only[sR,simprocAttr];iterate 5
    (refine aE (g:=none) rfl rfl fun K' hK'=>?_;simp only[sH,↓sP,sA,tyS,simprocAttr,h7_26,h7_29];(repeat refine AI ?_);refine hK' _ _ ?_;clear hK' K')
   simp only[sE,↓reduceIte,simprocAttr];repeat refine AI ?_
   refine hK _ _ _ ?_;clear hK K;refine aD (by kernel_rfl) ?_;simp (maxSteps:=4000000) only[↓sP,sA,tyS,simprocAttr];have ew:IntKind.i64.wrap ((i:Int)+1)=((i+1:Nat):Int):=by rw[IntWalk.i64_in _ (by omega)];rfl
   rw[ew];refine⟨⟨(i+1,S++[⟨false,D,0⟩],a3),by simp only;omega,by simp only[List.length_append,List.length_cons,List.length_nil];omega,fun z hz=>?_,by simp only;omega⟩,(aM (by omega) (by simp[aW,fin_at,finA_at,upd_at,HV.men,HV.menL,HV.norm,HV.toC,HV.toCL]) (by simp[aX,fob_at,upd_at,none0_at,bI,HO.men,HV.men,HV.menL,HV.norm,HV.toC,HV.toCL])),by simp only;omega⟩;rcases List.mem_append.1 hz with hz|hz
   · exact hd z hz
   rw[List.mem_singleton.1 hz];simp only;omega
  iterate 2
   (refine aE (g:=some (27,true)) rfl rfl fun K' hK'=>?_;simp only[sH,↓sP,sA,tyS,simprocAttr,h7_26];(repeat refine AI ?_);refine hK' _ _ ?_;clear hK' K')
  refine aE (g:=none) rfl rfl fun K' hK'=>?_;simp (maxSteps:=4000000) only[sH,↓sP,sA,tyS,simprocAttr,h7_26];repeat refine AI ?_
  refine hK' _ _ ?_;clear hK' K';simp only[sE,↓reduceIte,simprocAttr];repeat refine AI ?_
  refine hK _ _ _ ?_;clear hK K;refine aJ (b:=false) rfl (fun hb=>?_) (fun hb=>?_)
  · cases hb
  refine bB ?_;simp (maxSteps:=4000000) only[↓sP,sA,tyS,simprocAttr];clear hK K;repeat refine AI ?_
  refine hK _ _ _ ?_;clear hK K;refine aD (by kernel_rfl) ?_;simp only[sR,simprocAttr];iterate 5
   (refine aE (g:=none) rfl rfl fun K' hK'=>?_;simp only[sH,↓sP,sA,tyS,simprocAttr,h7_26];(repeat refine AI ?_);refine hK' _ _ ?_;clear hK' K')
  simp only[sE,↓reduceIte,simprocAttr];repeat refine AI ?_
  refine hK _ _ _ ?_;clear hK K;refine aD (by kernel_rfl) ?_;simp (maxSteps:=4000000) only[↓sP,sA,tyS,simprocAttr];have ew:IntKind.i64.wrap ((i:Int)+1)=((i+1:Nat):Int):=by rw[IntWalk.i64_in _ (by omega)];rfl
  rw[ew];refine⟨⟨(i+1,S++[⟨hh,D,0⟩],a3),by simp only;omega,by simp only[List.length_append,List.length_cons,List.length_nil];omega,fun z hz=>?_,by simp only;omega⟩,(aM (by omega) (by simp[aW,fin_at,finA_at,upd_at,HV.men,HV.menL,HV.norm,HV.toC,HV.toCL]) (by simp[aX,fob_at,upd_at,none0_at,bI,HO.men,HV.men,HV.menL,HV.norm,HV.toC,HV.toCL])),by simp only;omega⟩;rcases List.mem_append.1 hz with hz|hz
  · exact hd z hz
  rw[List.mem_singleton.1 hz];simp only;omega
 have hie:i=(dE T).length:=by have:=of_decide_eq_false hb;omega
 subst hie;clear hb;refine bB ?_;simp (maxSteps:=4000000) only[↓sP,sA,tyS,simprocAttr];clear hK K;repeat refine AI ?_
 refine hK _ _ _ ?_;clear hK K;refine aC fun K hK=>aD (by kernel_rfl) ?_;simp (maxSteps:=4000000) only[↓sP,sA,tyS,simprocAttr];repeat refine AI ?_
 refine hK _ _ _ ?_;clear hK K;refine aH ?_;simp (maxSteps:=4000000) only[bK,Tryz.results12,bH,bJ,bG,↓sP,sA,tyS,simprocAttr];refine lM [13] (.slc (S.map Sp.cv)) (tp L b) (by simp[HV.close,HV.closeL,CV.denil,CV.denilL,denilL_Sp,HV.norm,HV.toC,HV.toCL,fob_at,upd_at]) rfl (by simp[HV.close,HV.closeL,tp,CV.denil,CV.denilL,denilL_int,HV.norm,HV.toC,HV.toCL]) (by simp) ⟨S,b,rfl,rfl,hS,hd,by omega⟩
end Go.Proofs.YthedbjfipmkpiaaGreatDoor
namespace Go.Pl
open Go Go.Hl
end Go.Pl
namespace Go.Proofs.YthedbjfipmkpiaaGreatDoor
open Go Go.Hl Go.Pl
set_option maxRecDepth 10000
set_option maxHeartbeats 16000000
end Go.Proofs.YthedbjfipmkpiaaGreatDoor
