/- PolicyChanged: for any tape of numbers, any two numbers, any text and any requirement the law returns true and leaves them as they were: of made policies of which a field or a requirement is changed, Valid and Encode answer as the reference does. The listed tables of the library are tied to the program's text by the card. By an AI agent. -/
import Derived.Test.YtlldglbooaefhaaGreatDoorHzU1
import Derived.Test.YtlldglbooaefhaaGreatDoorHzTp
import Derived.Test.YtlldglbooaefhaaGreatDoorHlTlaw
import Derived.Test.YtlldglbooaefhaaGreatDoorHzUe
import Derived.Test.YtlldglbooaefhaaGreatDoorPl28o
import Derived.Lay
import Derived.SevenTiedAt
import Derived.Test.YtlldglbooaefhaaGreatDoorRows
import Derived.Test.YtlldglbooaefhaaGreatDoorCards
import Derived.Test.YtlldglbooaefhaaGreatDoorTie
set_option linter.unusedSimpArgs false
set_option linter.unusedVariables false
set_option linter.defProp false
namespace Go.Proofs.YtlldglbooaefhaaGreatDoor
open Go Go.Hl Go.Pl
set_option maxRecDepth 10000
set_option maxHeartbeats 16000000
abbrev cPr (x:Pr):HV:= .c x.cv
def bI1 :Nat→List Pr→Ob→Ob
 |_,[],ob=>ob
 |N,x::l,ob=>bI1 (N+1) l (upd ob N (some (.row 40 7 (x.t.map Nd.cv))))
theorem bU1 (n m:Nat)(a b:CV):HV.ren (sub [13] n) (.agg [.c a,.c b,.own 1 m])= .agg [.c a,.c b,.own n m]:=rfl
theorem cB3 (n:Nat)(ob:Ob)(t e:TypeId)(sz:Nat)(v:CV): ∀rs:List Pr,rs.length≤2→jP (sub [13] n) ob 0 (.box t (.c v):: .hrow e sz (rlO 2 rs)::trO 2 rs)=bI1 (n+1) rs (upd (upd ob 13 (some (.box t (.c v)))) n (some (.hrow e sz (rlO (n+1) rs))))
 |[],_=>rfl
 |[_],_=>rfl
 |[_,_],_=>rfl
 |_::_::_::_,h=>by simp at h
variable {k:Nat}
theorem bU {M:List HV}(h:k<M.length)(v:HV):pG (M.set k v) k=v:=by
 unfold pG;simp[h]
theorem menL_set {M:Nat→Prop}{v:HV}(hv:v.men M): ∀{l:List HV} {k:Nat},HV.menL M l→HV.menL M (l.set k v)
 |[],_,_=>by simp[HV.menL]
 |x::l,0,h=>by simp only[List.set_cons_zero,HV.menL]at h⊢;exact⟨hv,h.2⟩
 |x::l,k+1,h=>by simp only[List.set_cons_succ,HV.menL]at h⊢;exact⟨h.1,menL_set hv h.2⟩
theorem cH {M:Nat→Prop}(h:M 5000)(rs:List Pr)(k:Nat)(x:Pr):HV.menL M ((rs.map cPr).set k (oPr x 5000)):=by
 refine menL_set (by simp[HV.men,HV.menL,h]) ?_;induction rs with
 |nil=>simp[HV.menL]
 |cons y l ih=>simp only[List.map_cons,HV.menL,HV.men,true_and,ih,and_self]
variable {x:Pr}{rs:List Pr}{ob:Ob}
theorem cC5 (hk:k<rs.length)(h2:rs.length≤2)(ho:ob 5000=some (.row 40 7 (x.t.map Nd.cv))):HV.toCL (HV.closeL ob [5000] ((rs.map cPr).set k (oPr x 5000)))=some ((rs.set k x).map Pr.cv):=by
 match rs,k,hk,h2 with
 |[R],0,_,_=>simp[HV.closeL,HV.close,HV.norm,HV.toC,HV.toCL,CV.denil,CV.denilL,ho,Pr.cv,denilL_Nd]
 |[R,S],0,_,_=>simp[HV.closeL,HV.close,HV.norm,HV.toC,HV.toCL,CV.denil,CV.denilL,ho,Pr.cv,denilL_Nd]
 |[R,S],1,_,_=>simp[HV.closeL,HV.close,HV.norm,HV.toC,HV.toCL,CV.denil,CV.denilL,ho,Pr.cv,denilL_Nd]
 |_::_::_::_,_,_,h=>simp at h
theorem aP5 {n nx:Nat}{code:Code}{Q:eF}{fr:Fr}(x:Pr)(hk:k<rs.length)(h2:rs.length≤2)(nm:aH)(v:Int)(q:Rq)
  (hf:Fits 1 fr ob (fin [(9,.ptr 1 0),(11,.ptr 21 0)]) (fob [(0,.tab tabs),(1,.box 38 (.c q.cv)),(21,.box 45 (.agg [.c (.str nm),.c (.int .i64 v),.own 17 rs.length])),(17,.hrow 54 5 ((rs.map cPr).set k (oPr x 5000))),(5000,.row 40 7 (x.t.map Nd.cv))]) 50000)
  (h:Hw Tryz.prog n 1 code Q (fin [(9,.ptr 1 0),(11,.ptr 21 0)]) (fob [(0,.tab tabs),(1,.box 38 (.c q.cv)),(21,.box 45 (.c (Po.cv ⟨nm,v,rs.set k x⟩)))]) 60000):Hw Tryz.prog n 1 code Q fr ob nx:=by
 refine bF hf (dA [5000] (aW5 17 ((rs.set k x).map Pr.cv) rfl (cC5 hk h2 rfl) (dA [17] (bF ?_ h))));exact aL (by omega) (by simp[aS,fin_at,finA_at,upd_at,HV.men,HV.menL,HV.norm,HV.toC,HV.toCL,dI,dJ,HO.close,HV.close,HV.closeL,CV.denil,CV.denilL,Po.cv,Rq.denil,mG,fob_at,List.length_map,List.length_set]) (by simp[aT,fob_at,upd_at,none0_at,bL,HO.men,HV.men,HV.menL,HV.norm,HV.toC,HV.toCL,dI,dJ,HO.close,HV.close,HV.closeL,CV.denil,CV.denilL,Po.cv,Rq.denil,mG,fob_at,List.length_map,List.length_set])
theorem iR {nm:aH}{v:Int}(h:PoSz ⟨[112],1,rs⟩)(hn:nm.length<2^63)(k:Nat)(ha:x.a.length<2^63)(ht: ∀n∈x.t,n.q.t.length<2^63):PoSz ⟨nm,v,rs.set k x⟩:=by
 refine⟨hn,by simpa using h.r,fun r hr=>?_,fun r hr=>?_⟩
 ·
  rcases List.mem_or_eq_of_mem_set hr with h1|rfl
  · exact h.a r h1
  exact ha
 rcases List.mem_or_eq_of_mem_set hr with h1|rfl
 · exact h.t r h1
 exact ht
theorem aP6 (L:List Int)(w n:Int)(s:aH)(q:Rq)(hq:q.t.length<2^63):lX Tryz.prog 6 tabs [.slc (L.map (.int .i64)),.int .i64 w,.int .i64 n,.str s,q.cv] (fun v=>v= .bool true):=by
 refine bT (args:=[.c (.slc (L.map (.int .i64))),.c (.int .i64 w),.c (.int .i64 n),.c (.str s),.c q.cv]) Tryz.func6 rfl (by kernel_rfl) (fP tabs [.slc (L.map (.int .i64)),.int .i64 w,.int .i64 n,.str s,q.cv]) (Nat.le_of_ble_eq_true rfl) ?_;unfold eT;refine R0 ?_;refine aC fun K hK=>?_;have key: ∀(rs:List Pr) fr ob nx,MadeRs 0 rs→1≤rs.length→Fits 1 fr ob (fin [(1,.c (.int .i64 w)),(2,.c (.int .i64 n)),(3,.c (.str s)),(9,.ptr 1 0),(11,.ptr 21 0)]) (fob ((0,.tab tabs)::(1,.box 38 (.c q.cv))::(21,.box 45 (.agg [.c (.str [112]),.c (.int .i64 1),.own 17 rs.length]))::(17,.hrow 54 5 (rlO 18 rs))::trH 18 rs)) 100→K fr ob nx:=by
  rintro rs fr ob nx hrs hr1 hf;refine hK _ _ _ (bF hf ?_);clear hf hK K;have hr2:rs.length≤2:=by have:=hrs.two;omega
  refine aC fun K hK=>?_;have key: ∀(cl:List Nat) (A k:Nat) fr ob nx,1≤A→A<nx→nx≤5000→(hk:k<rs.length)→Fits 1 (mvF A 5000 (clF ob cl fr)) (mvO A 5000 (clO ob cl)) (fin [(1,.c (.int .i64 w)),(2,.c (.int .i64 n)),(3,.c (.str s)),(9,.ptr 1 0),(11,.ptr 21 0),(12,.eptr 17 rs.length k 5 0)]) (fob [(0,.tab tabs),(1,.box 38 (.c q.cv)),(21,.box 45 (.agg [.c (.str [112]),.c (.int .i64 1),.own 17 rs.length])),(17,.hrow 54 5 ((rs.map cPr).set k (oPr rs[k] 5000))),(5000,.row 40 7 (rs[k].t.map Nd.cv))]) 6000→K fr ob nx:=by
   rintro cl A k fr ob nx hA1 hA hnx hk hf;refine hK _ _ _ (dA cl (aO9 A 5000 hA1 hA hnx (bF hf ?_)));clear hf hK K hA hnx hA1;have hsz:=hrs.sz 1;have hkM:k<(rs.map cPr).length:=by simpa using hk
   obtain⟨X,hX⟩: ∃X,X=rs[k]:=⟨_,rfl⟩;have hXa:X.a.length<2^63:=by rw[hX];exact hsz.a _ (List.getElem_mem hk)
   have hXl:X.t.length<2^40:=by rw[hX];have:=((hrs.fin (v:=1) (by omega) (by omega)).2.2 _ (List.getElem_mem hk)).2.2;omega
   have hXt:ShN X.t:=by rw[hX];exact hsz.t _ (List.getElem_mem hk)
   have hrsX:rs.set k X=rs:=by rw[hX];simp
   rw[←hX];have hMne:((rs.map cPr).set k (oPr X 5000)=[])=False:=eq_false fun h=>by
    have:=congrArg List.length h;rw[List.length_set,List.length_map,List.length_nil]at this;omega
   have e: ∃m:Nat,(if(250:Int)<(s.length:Int)then(250:Int)else(s.length:Int))=(m:Int)∧m≤s.length∧m≤250:=⟨min 250 s.length,by split<;>omega,by omega,by omega⟩;obtain⟨m,e,hm1,hm2⟩:=e;obtain⟨S,hS⟩: ∃S:aH,S=s.take m:=⟨_,rfl⟩;have hSl:S.length<2^63:=by rw[hS,List.length_take];omega
   refine aC fun K hK=>Rg ?_;iterate 6 refine S0 ?_ (e:=fun _ h_=>by simp only[sH,↓sP,sA,tyS,simprocAttr,e,Int.natCast_nonneg,Int.ofNat_le,hm1,Int.toNat_natCast,List.drop_zero,Nat.sub_zero,←hS];exact AX h_)
   refine T2 (hK _ _ _ ?_);clear hK K;refine aC fun K hK=>?_;have key: ∀(p':Po) (q':Rq) fr ob nx,PoSz p'→q'.t=q.t→(∀N code Q,Hw Tryz.prog N 1 code Q (fin [(9,.ptr 1 0),(11,.ptr 21 0)]) (fob [(0,.tab tabs),(1,.box 38 (.c q'.cv)),(21,.box 45 (.c p'.cv))]) 60000→Hw Tryz.prog N 1 code Q fr ob nx)→K fr ob nx:=by
    rintro p' q' fr ob nx hp' hq' hE;refine hK _ _ _ (hE _ _ _ ?_);clear hE hK K;refine aC fun K hK=>?_;refine aC fun K hK=>Rg ?_;iterate 4 refine S0 ?_
    refine T2 (hK _ _ _ ?_);clear hK K;refine aG (b:=decide ((200:Int)<q'.t.length)) rfl (fun hb=>?_) (fun hb=>?_)
    · refine aC fun K hK=>Rg ?_;refine HS rfl rfl fun K' hK'=>T5 ?_;refine eR (args:=[]) 0 aP4 rfl (by simp) ⟨rfl,rfl,rfl,rfl⟩ ?_;rintro u rfl;refine AX (hK' _ _ ?_);clear hK' K';refine S0 ?_;refine T2 (hK _ _ _ ?_);clear hK K;refine aF (RT Tryz.results6 ?_);exact dS [] (.bool true) rfl rfl (by simp) rfl
    refine aK ?_;refine T0 (hK _ _ _ ?_);clear hK K;clear hb;refine aC fun K hK=>Rg ?_;refine S0 ?_;refine HS rfl rfl fun K' hK'=>T5 ?_;refine nL (args:=[_]) 0 (aG3 p' hp') rfl (by simp) ⟨rfl,rfl,rfl,rfl⟩ ?_;rintro u v ⟨rfl,rfl⟩;refine AX (hK' _ _ ?_);clear hK' K';iterate 5 refine S0 ?_
    refine T2 (hK _ _ _ ?_);clear hK K;refine aC fun K hK=>Rg ?_;refine S0 ?_;refine HS rfl rfl fun K' hK'=>T5 ?_;refine D1 (cB0 p' hp') ?_;rintro u v ⟨rfl,rfl⟩;refine AX (hK' _ _ ?_);clear hK' K';iterate 5 refine S0 ?_
    refine T2 (hK _ _ _ ?_);clear hK K;refine aC fun K hK=>DW [(0,[],[]),(2,[],[]),(1,[],[2]),(3,[],[]),(4,[],[]),(5,[],[]),(6,[],[]),(7,[],[]),(8,[],[]),(9,[],[]),(10,[],[]),(11,[],[]),(12,[],[]),(13,[],[]),(14,[],[]),(15,[],[]),(16,[],[]),(17,[],[]),(18,[],[]),(19,[],[]),(20,[],[])] [0,1,0,7,15,31,63,63,255,511,1023,2047,4095,2047,10239,32767,65535,131071,262143,524287,1048575] ?_;have F:=aI @bytesC_map @beq_self_eq_true.{0};iterate 2 refine WF ?_
    refine cE (g:=none) rfl rfl fun K' hK'=>T6 ?_;refine C1 (oS p' hp') ?_;rintro u rfl;refine AX (hK' _ _ ?_);clear hK' K';refine cE (g:=none) rfl rfl fun K' hK'=>T6 ?_;refine C1 (aA8 p' hp') ?_;rintro u rfl;refine AX (hK' _ _ ?_);clear hK' K';iterate 14 refine WF ?_
    refine cE (g:=some (146,true)) rfl rfl fun K' hK'=>T6 ?_;refine eR (args:=[]) 0 aP4 rfl (by simp) ⟨rfl,rfl,rfl,rfl⟩ ?_;rintro u rfl;refine AX (hK' _ _ ?_);clear hK' K';iterate 2 refine WF ?_
    refine T2 (hK _ _ _ ?_);clear hK K;refine aF (RT Tryz.results6 ?_);exact dS [] (.bool true) rfl rfl (by simp) rfl
   refine aC fun K hK=>Rg ?_;refine S0 ?_;refine HS rfl rfl fun K' hK'=>T5 ?_;refine C2 (mF w 9 (by omega) (by omega)) ?_;rintro u ⟨x,hx,rfl⟩;refine AX (hK' _ _ ?_);clear hK' K';refine T2 (hK _ _ _ ?_);clear hK K;refine aM ?_;refine R0 ?_;refine aG (b:=_) rfl (fun hb=>?_) (fun hb=>?_)
   ·
    refine aN (by kernel_rfl) ?_;simp only[↓sP,sA,tyS,simprocAttr];try refine⟨rfl,?_⟩
    exact key ⟨S,1,rs.set k X⟩ q _ _ _ (iR hsz hSl k hXa hXt) rfl fun N code Q h=>aP5 X hk hr2 S 1 q (aL (by omega) (by simp[aS,fin_at,finA_at,upd_at,HV.men,HV.menL,HV.norm,HV.toC,HV.toCL,cH]) (by simp[aT,fob_at,upd_at,none0_at,bL,HO.men,HV.men,HV.menL,HV.norm,HV.toC,HV.toCL,cH])) h
   refine R0 ?_;refine aG (b:=_) rfl (fun hb=>?_) (fun hb=>?_)
   ·
    refine aN (by kernel_rfl) ?_;simp only[↓sP,sA,tyS,simprocAttr];try refine⟨rfl,?_⟩
    exact key ⟨[112],n,rs.set k X⟩ q _ _ _ (iR hsz (by decide) k hXa hXt) rfl fun N code Q h=>aP5 X hk hr2 [112] n q (aL (by omega) (by simp[aS,fin_at,finA_at,upd_at,HV.men,HV.menL,HV.norm,HV.toC,HV.toCL,cH]) (by simp[aT,fob_at,upd_at,none0_at,bL,HO.men,HV.men,HV.menL,HV.norm,HV.toC,HV.toCL,cH])) h
   refine R0 ?_;refine aG (b:=_) rfl (fun hb=>?_) (fun hb=>?_)
   ·
    refine bA (by kernel_rfl) ?_;simp only[sR,simprocAttr];iterate 2 refine SG0 ?_ (e:=fun _ h_=>by simp only[sH,↓sP,sA,tyS,simprocAttr,bU hkM,hMne,not_false_eq_true,List.set_set,List.length_set,List.length_map,hk];exact AX h_)
    refine aU (g:=none) rfl rfl fun K' hK'=>?_;simp only[sN,↓hopH.eq_def,sH,↓sP,sA,tyS,simprocAttr,bU hkM,hMne,not_false_eq_true,List.set_set,List.length_set,List.length_map,hk];refine AX (hK' _ _ ?_);clear hK' K';refine aU (g:=none) rfl rfl fun K' hK'=>?_;simp only[sN,↓hopH.eq_def,sH,↓sP,sA,tyS,simprocAttr,bU hkM,hMne,not_false_eq_true,List.set_set,List.length_set,List.length_map,hk];refine AX (hK' _ _ ?_);clear hK' K';refine aU (g:=none) rfl rfl fun K' hK'=>?_;simp only[sN,↓hopH.eq_def,sH,↓sP,sA,tyS,simprocAttr,bU hkM,hMne,not_false_eq_true,List.set_set,List.length_set,List.length_map,hk];refine AX (hK' _ _ ?_);clear hK' K';refine T4 ?_;try refine⟨rfl,?_⟩
    exact key ⟨[112],1,rs.set k {X with a:=S}⟩ q _ _ _ (iR hsz (by decide) k hSl hXt) rfl fun N code Q h=>aP5 {X with a:=S} hk hr2 [112] 1 q (aL (by omega) (by simp[aS,fin_at,finA_at,upd_at,HV.men,HV.menL,HV.norm,HV.toC,HV.toCL,List.set_set,cH]) (by simp[aT,fob_at,upd_at,none0_at,bL,HO.men,HV.men,HV.menL,HV.norm,HV.toC,HV.toCL,List.set_set,cH])) h
   refine R0 ?_;refine aG (b:=_) rfl (fun hb=>?_) (fun hb=>?_)
   ·
    refine bA (by kernel_rfl) ?_;simp only[sR,simprocAttr];iterate 2 refine SG0 ?_ (e:=fun _ h_=>by simp only[sH,↓sP,sA,tyS,simprocAttr,bU hkM,hMne,not_false_eq_true,List.set_set,List.length_set,List.length_map,hk];exact AX h_)
    refine aU (g:=none) rfl rfl fun K' hK'=>?_;simp only[sN,↓hopH.eq_def,sH,↓sP,sA,tyS,simprocAttr,bU hkM,hMne,not_false_eq_true,List.set_set,List.length_set,List.length_map,hk];refine AX (hK' _ _ ?_);clear hK' K';refine aU (g:=none) rfl rfl fun K' hK'=>?_;simp only[sN,↓hopH.eq_def,sH,↓sP,sA,tyS,simprocAttr,bU hkM,hMne,not_false_eq_true,List.set_set,List.length_set,List.length_map,hk];refine AX (hK' _ _ ?_);clear hK' K';refine aU (g:=none) rfl rfl fun K' hK'=>?_;simp only[sN,↓hopH.eq_def,sH,↓sP,sA,tyS,simprocAttr,bU hkM,hMne,not_false_eq_true,List.set_set,List.length_set,List.length_map,hk];refine AX (hK' _ _ ?_);clear hK' K';refine T4 ?_;try refine⟨rfl,?_⟩
    exact key ⟨[112],1,rs.set k {X with b:=S}⟩ q _ _ _ (iR hsz (by decide) k hXa hXt) rfl fun N code Q h=>aP5 {X with b:=S} hk hr2 [112] 1 q (aL (by omega) (by simp[aS,fin_at,finA_at,upd_at,HV.men,HV.menL,HV.norm,HV.toC,HV.toCL,List.set_set,cH]) (by simp[aT,fob_at,upd_at,none0_at,bL,HO.men,HV.men,HV.menL,HV.norm,HV.toC,HV.toCL,List.set_set,cH])) h
   refine R0 ?_;refine aG (b:=_) rfl (fun hb=>?_) (fun hb=>?_)
   ·
    refine bA (by kernel_rfl) ?_;simp only[sR,simprocAttr];iterate 2 refine SG0 ?_ (e:=fun _ h_=>by simp only[sH,↓sP,sA,tyS,simprocAttr,bU hkM,hMne,not_false_eq_true,List.set_set,List.length_set,List.length_map,hk];exact AX h_)
    refine aU (g:=none) rfl rfl fun K' hK'=>?_;simp only[sN,↓hopH.eq_def,sH,↓sP,sA,tyS,simprocAttr,bU hkM,hMne,not_false_eq_true,List.set_set,List.length_set,List.length_map,hk];refine AX (hK' _ _ ?_);clear hK' K';refine aU (g:=none) rfl rfl fun K' hK'=>?_;simp only[sN,↓hopH.eq_def,sH,↓sP,sA,tyS,simprocAttr,bU hkM,hMne,not_false_eq_true,List.set_set,List.length_set,List.length_map,hk];refine AX (hK' _ _ ?_);clear hK' K';refine aU (g:=none) rfl rfl fun K' hK'=>?_;simp only[sN,↓hopH.eq_def,sH,↓sP,sA,tyS,simprocAttr,bU hkM,hMne,not_false_eq_true,List.set_set,List.length_set,List.length_map,hk];refine AX (hK' _ _ ?_);clear hK' K';refine T4 ?_;try refine⟨rfl,?_⟩
    exact key ⟨[112],1,rs.set k {X with c:=S}⟩ q _ _ _ (iR hsz (by decide) k hXa hXt) rfl fun N code Q h=>aP5 {X with c:=S} hk hr2 [112] 1 q (aL (by omega) (by simp[aS,fin_at,finA_at,upd_at,HV.men,HV.menL,HV.norm,HV.toC,HV.toCL,List.set_set,cH]) (by simp[aT,fob_at,upd_at,none0_at,bL,HO.men,HV.men,HV.menL,HV.norm,HV.toC,HV.toCL,List.set_set,cH])) h
   refine R0 ?_;refine aG (b:=_) rfl (fun hb=>?_) (fun hb=>?_)
   ·
    refine bA (by kernel_rfl) ?_;simp only[sR,simprocAttr];iterate 2 refine SG0 ?_ (e:=fun _ h_=>by simp only[sH,↓sP,sA,tyS,simprocAttr,bU hkM,hMne,not_false_eq_true,List.set_set,List.length_set,List.length_map,hk];exact AX h_)
    refine aU (g:=none) rfl rfl fun K' hK'=>?_;simp only[sN,↓hopH.eq_def,sH,↓sP,sA,tyS,simprocAttr,bU hkM,hMne,not_false_eq_true,List.set_set,List.length_set,List.length_map,hk];refine AX (hK' _ _ ?_);clear hK' K';refine aU (g:=none) rfl rfl fun K' hK'=>?_;simp only[sN,↓hopH.eq_def,sH,↓sP,sA,tyS,simprocAttr,bU hkM,hMne,not_false_eq_true,List.set_set,List.length_set,List.length_map,hk];refine AX (hK' _ _ ?_);clear hK' K';refine aU (g:=none) rfl rfl fun K' hK'=>?_;simp only[sN,↓hopH.eq_def,sH,↓sP,sA,tyS,simprocAttr,bU hkM,hMne,not_false_eq_true,List.set_set,List.length_set,List.length_map,hk];refine AX (hK' _ _ ?_);clear hK' K';refine T4 ?_;try refine⟨rfl,?_⟩
    exact key ⟨[112],1,rs.set k {X with g:=n}⟩ q _ _ _ (iR hsz (by decide) k hXa hXt) rfl fun N code Q h=>aP5 {X with g:=n} hk hr2 [112] 1 q (aL (by omega) (by simp[aS,fin_at,finA_at,upd_at,HV.men,HV.menL,HV.norm,HV.toC,HV.toCL,List.set_set,cH]) (by simp[aT,fob_at,upd_at,none0_at,bL,HO.men,HV.men,HV.menL,HV.norm,HV.toC,HV.toCL,List.set_set,cH])) h
   refine R0 ?_;refine aG (b:=_) rfl (fun hb=>?_) (fun hb=>?_)
   ·
    have h0:0<rs.length:=by omega
    refine dA [5000] (aW5 17 ((rs.set k X).map Pr.cv) rfl (cC5 hk hr2 rfl) (bF (fr2:=fin [(9,.ptr 1 0),(11,.ptr 21 0)]) (ob2:=fob [(0,.tab tabs),(1,.box 38 (.c q.cv)),(21,.box 45 (.agg [.c (.str [112]),.c (.int .i64 1),.own 17 rs.length])),(17,.row 54 5 (rs.map Pr.cv))]) (nx2:=9000) (aL (by omega) (by simp[aS,fin_at,finA_at,upd_at,HV.men,HV.menL,HV.norm,HV.toC,HV.toCL,dI,dJ,HO.close,HV.close,HV.closeL,CV.denil,CV.denilL,hrsX,Rq.denil]) (by simp[aT,fob_at,upd_at,none0_at,bL,HO.men,HV.men,HV.menL,HV.norm,HV.toC,HV.toCL,dI,dJ,HO.close,HV.close,HV.closeL,CV.denil,CV.denilL,hrsX,Rq.denil])) ?_));refine DW [(0,[],[]),(1,[],[]),(2,[],[]),(3,[],[]),(4,[],[]),(5,[],[]),(6,[],[]),(7,[],[]),(8,[],[]),(9,[],[])] [0,1,0,4,12,28,60,127,255,511] ?_;iterate 10 refine W0 ?_ (e:=fun _ h_=>by simp only[sH,↓sP,sA,tyS,simprocAttr,List.length_map,bH h0,h0,Int.natCast_nonneg,Int.ofNat_lt,Int.natCast_pos,Int.toNat_zero,Pr.cells];exact AX h_)
    refine T4 ?_;try refine⟨rfl,?_⟩
    exact key ⟨[112],1,rs++[rs[0]]⟩ q _ _ _ ⟨by simp,by simp;omega,fun r hr=>by rcases List.mem_append.1 hr with h|h;exact hsz.a r h;rw[List.mem_singleton.1 h];exact hsz.a _ (List.getElem_mem _),fun r hr=>by rcases List.mem_append.1 hr with h|h;exact hsz.t r h;rw[List.mem_singleton.1 h];exact hsz.t _ (List.getElem_mem _)⟩ rfl fun N code Q h=>dA [17] (bF (aL (by omega) (by simp[aS,fin_at,finA_at,upd_at,HV.men,HV.menL,HV.norm,HV.toC,HV.toCL,dI,dJ,HO.close,HV.close,HV.closeL,CV.denil,CV.denilL,Po.cv,Rq.denil,mG,fob_at,upd_at,List.length_map,List.map_append,List.length_append]) (by simp[aT,fob_at,upd_at,none0_at,bL,HO.men,HV.men,HV.menL,HV.norm,HV.toC,HV.toCL,dI,dJ,HO.close,HV.close,HV.closeL,CV.denil,CV.denilL,Po.cv,Rq.denil,mG,fob_at,upd_at,List.length_map,List.map_append,List.length_append])) h)
   refine R0 ?_;refine aM ?_;refine bI (α:={i:Nat//i≤X.t.length}) (fun i=>(fin [(1,.c (.int .i64 w)),(9,.ptr 1 0),(11,.ptr 21 0),(12,.eptr 17 rs.length k 5 0),(13,.c (.int .i64 i.1))],fob [(0,.tab tabs),(1,.box 38 (.c q.cv)),(21,.box 45 (.agg [.c (.str [112]),.c (.int .i64 1),.own 17 rs.length])),(17,.hrow 54 5 ((rs.map cPr).set k (oPr X 5000))),(5000,.row 40 7 (X.t.map Nd.cv))])) 20000 (fun i=>X.t.length-i.1) ⟨0,Nat.zero_le _⟩ (aL (by omega) (by simp[aS,fin_at,finA_at,upd_at,HV.men,HV.menL,HV.norm,HV.toC,HV.toCL,cH]) (by simp[aT,fob_at,upd_at,none0_at,bL,HO.men,HV.men,HV.menL,HV.norm,HV.toC,HV.toCL,cH])) ?_;rintro⟨i,hi⟩;refine aC fun K hK=>?_;refine aC fun K hK=>bA (by kernel_rfl) ?_;simp only[sR,simprocAttr];iterate 2 refine SG0 ?_ (e:=fun _ h_=>by simp only[sH,↓sP,sA,tyS,simprocAttr,bU hkM,hMne,not_false_eq_true,List.set_set,List.length_set,List.length_map,hk];exact AX h_)
   refine aU (g:=none) rfl rfl fun K' hK'=>?_;simp only[sN,↓hopH.eq_def,sH,↓sP,sA,tyS,simprocAttr,bU hkM,hMne,not_false_eq_true,List.set_set,List.length_set,List.length_map,hk];refine AX (hK' _ _ ?_);clear hK' K';refine aU (g:=none) rfl rfl fun K' hK'=>?_;simp only[sN,↓hopH.eq_def,sH,↓sP,sA,tyS,simprocAttr,bU hkM,hMne,not_false_eq_true,List.set_set,List.length_set,List.length_map,hk];refine AX (hK' _ _ ?_);clear hK' K';refine aU (g:=none) rfl rfl fun K' hK'=>?_;simp only[sN,↓hopH.eq_def,sH,↓sP,sA,tyS,simprocAttr,bU hkM,hMne,not_false_eq_true,List.set_set,List.length_set,List.length_map,hk];refine AX (hK' _ _ ?_);clear hK' K';iterate 2 refine SG0 ?_ (e:=fun _ h_=>by simp only[sH,↓sP,sA,tyS,simprocAttr,bU hkM,hMne,not_false_eq_true,List.set_set,List.length_set,List.length_map,hk];exact AX h_)
   refine T2 (hK _ _ _ ?_);clear hK K;refine aG (b:=decide ((i:Int)<X.t.length)) rfl (fun hb=>?_) (fun hb=>?_)
   ·
    have hlt:i<X.t.length:=by simpa using hb
    clear hb;refine aK ?_;refine T0 (hK _ _ _ ?_);clear hK K;refine aC fun K hK=>?_;refine aM ?_;refine aC fun K hK=>bA (by kernel_rfl) ?_;simp only[sR,simprocAttr];refine SG0 ?_ (e:=fun _ h_=>by simp only[sH,↓sP,sA,tyS,simprocAttr,kV hlt,List.map_eq_nil_iff,bU hkM,hMne,not_false_eq_true,List.set_set,List.length_set,List.length_map,hk,Int.natCast_nonneg,Int.ofNat_lt,hlt,bH hlt,Int.toNat_natCast];exact AX h_);refine aU (g:=none) rfl rfl fun K' hK'=>?_;simp only[sN,↓hopH.eq_def,sH,↓sP,sA,tyS,simprocAttr,kV hlt,List.map_eq_nil_iff,bU hkM,hMne,not_false_eq_true,List.set_set,List.length_set,List.length_map,hk,Int.natCast_nonneg,Int.ofNat_lt,hlt,bH hlt,Int.toNat_natCast];refine AX (hK' _ _ ?_);clear hK' K';refine aU (g:=none) rfl rfl fun K' hK'=>?_;simp only[sN,↓hopH.eq_def,sH,↓sP,sA,tyS,simprocAttr,kV hlt,List.map_eq_nil_iff,bU hkM,hMne,not_false_eq_true,List.set_set,List.length_set,List.length_map,hk,Int.natCast_nonneg,Int.ofNat_lt,hlt,bH hlt,Int.toNat_natCast];refine AX (hK' _ _ ?_);clear hK' K';refine aU (g:=none) rfl rfl fun K' hK'=>?_;simp only[sN,↓hopH.eq_def,sH,↓sP,sA,tyS,simprocAttr,kV hlt,List.map_eq_nil_iff,bU hkM,hMne,not_false_eq_true,List.set_set,List.length_set,List.length_map,hk,Int.natCast_nonneg,Int.ofNat_lt,hlt,bH hlt,Int.toNat_natCast];refine AX (hK' _ _ ?_);clear hK' K';iterate 5 refine SG0 ?_ (e:=fun _ h_=>by simp only[sH,↓sP,sA,tyS,simprocAttr,kV hlt,List.map_eq_nil_iff,bU hkM,hMne,not_false_eq_true,List.set_set,List.length_set,List.length_map,hk,Int.natCast_nonneg,Int.ofNat_lt,hlt,bH hlt,Int.toNat_natCast];exact AX h_)
    refine T2 (hK _ _ _ ?_);clear hK K;refine aG (b:=(X.t[i].k==1)) rfl (fun hb=>?_) (fun hb=>?_)
    ·
     refine aC fun K hK=>?_;have key2: ∀(q':Rq) fr ob nx,q'.t=q.t→Fits 1 fr ob (fin [(1,.c (.int .i64 w)),(9,.ptr 1 0),(11,.ptr 21 0),(12,.eptr 17 rs.length k 5 0),(13,.c (.int .i64 i))]) (fob [(0,.tab tabs),(1,.box 38 (.c q'.cv)),(21,.box 45 (.agg [.c (.str [112]),.c (.int .i64 1),.own 17 rs.length])),(17,.hrow 54 5 ((rs.map cPr).set k (oPr X 5000))),(5000,.row 40 7 (X.t.map Nd.cv))]) 30000→K fr ob nx:=by
      rintro q' fr ob nx hq' hf;refine hK _ _ _ (bF hf ?_);clear hf hK K;refine aC fun K hK=>cT mixed [(0,[],[]),(1,[],[]),(2,[],[]),(3,[],[]),(4,[],[]),(5,[],[]),(6,[],[]),(7,[],[]),(8,[],[])] [0,1,3,7,0,0,63,127,255] (by kernel_rfl) (by kernel_rfl) (by kernel_rfl) (by kernel_rfl) rfl (by kernel_rfl) ?_;refine WG0 ?_ (e:=fun _ h_=>by simp only[sH,↓sP,sA,tyS,simprocAttr,bU hkM,hMne,not_false_eq_true,List.set_set,List.length_set,List.length_map,hk,Int.natCast_nonneg,Int.ofNat_lt,hlt,bH hlt,xF,rH,xG hlt,aO1 hlt,kV hlt,Int.toNat_natCast,List.map_eq_nil_iff];exact AX h_);refine cC (g:=none) rfl rfl fun K' hK'=>?_;simp only[sN,↓hopH.eq_def,sH,↓sP,sA,tyS,simprocAttr,bU hkM,hMne,not_false_eq_true,List.set_set,List.length_set,List.length_map,hk,Int.natCast_nonneg,Int.ofNat_lt,hlt,bH hlt,xF,rH,xG hlt,aO1 hlt,kV hlt,Int.toNat_natCast,List.map_eq_nil_iff];refine AX (hK' _ _ ?_);clear hK' K';refine cC (g:=none) rfl rfl fun K' hK'=>?_;simp only[sN,↓hopH.eq_def,sH,↓sP,sA,tyS,simprocAttr,bU hkM,hMne,not_false_eq_true,List.set_set,List.length_set,List.length_map,hk,Int.natCast_nonneg,Int.ofNat_lt,hlt,bH hlt,xF,rH,xG hlt,aO1 hlt,kV hlt,Int.toNat_natCast,List.map_eq_nil_iff];refine AX (hK' _ _ ?_);clear hK' K';refine cC (g:=none) rfl rfl fun K' hK'=>?_;simp only[sN,↓hopH.eq_def,sH,↓sP,sA,tyS,simprocAttr,bU hkM,hMne,not_false_eq_true,List.set_set,List.length_set,List.length_map,hk,Int.natCast_nonneg,Int.ofNat_lt,hlt,bH hlt,xF,rH,xG hlt,aO1 hlt,kV hlt,Int.toNat_natCast,List.map_eq_nil_iff];refine AX (hK' _ _ ?_);clear hK' K';iterate 5 refine WG0 ?_ (e:=fun _ h_=>by simp only[sH,↓sP,sA,tyS,simprocAttr,bU hkM,hMne,not_false_eq_true,List.set_set,List.length_set,List.length_map,hk,Int.natCast_nonneg,Int.ofNat_lt,hlt,bH hlt,xF,rH,xG hlt,aO1 hlt,kV hlt,Int.toNat_natCast,List.map_eq_nil_iff];exact AX h_)
      refine T2 (hK _ _ _ ?_);clear hK K;refine bD (T3 ?_);clear hK K;have eo:oPr {X with t:=X.t.set i {X.t[i]with q:=q'}} 5000=oPr X 5000:=by simp only[oPr,List.length_set]
      try refine⟨rfl,?_⟩
      exact key ⟨[112],1,rs.set k {X with t:=X.t.set i {X.t[i]with q:=q'}}⟩ q' _ _ _ (iR hsz (by decide) k hXa (hXt.set i (by rw[hq'];exact hq))) hq' fun N code Q h=>aP5 {X with t:=X.t.set i {X.t[i]with q:=q'}} hk hr2 [112] 1 q' (aL (by omega) (by simp[aS,fin_at,finA_at,upd_at,HV.men,HV.menL,HV.norm,HV.toC,HV.toCL,eo,cH]) (by simp[aT,fob_at,upd_at,none0_at,bL,HO.men,HV.men,HV.menL,HV.norm,HV.toC,HV.toCL,eo,cH])) h
     refine R0 ?_;refine aG (b:=_) rfl (fun hb=>?_) (fun hb=>?_)
     ·
      refine Rg ?_;iterate 2 refine S0 ?_
      refine HS rfl rfl fun K' hK'=>T5 ?_;refine C2 (mF q.k 8 (by omega) (by omega)) ?_;rintro u ⟨x8,hx8,rfl⟩;refine AX (hK' _ _ ?_);clear hK' K';iterate 3 refine S0 ?_
      refine T4 ?_;exact key2 ⟨IntKind.i64.wrap (1+x8),q.n,q.m,q.t⟩ _ _ _ rfl (aL (by omega) (by simp[aS,fin_at,finA_at,upd_at,HV.men,HV.menL,HV.norm,HV.toC,HV.toCL,Rq.cv,cH]) (by simp[aT,fob_at,upd_at,none0_at,bL,HO.men,HV.men,HV.menL,HV.norm,HV.toC,HV.toCL,Rq.cv,cH]))
     refine aK (T3 ?_);exact key2 q _ _ _ rfl (aL (by omega) (by simp[aS,fin_at,finA_at,upd_at,HV.men,HV.menL,HV.norm,HV.toC,HV.toCL,cH]) (by simp[aT,fob_at,upd_at,none0_at,bL,HO.men,HV.men,HV.menL,HV.norm,HV.toC,HV.toCL,cH]))
    refine aK ?_;refine T0 (hK _ _ _ ?_);clear hK K;refine aN (by kernel_rfl) ?_;refine TQ (show IntKind.i64.wrap ((i:Int)+1)=((i+1:Nat):Int)from by rw[IntWalk.i64_in _ (by omega)];rfl) ?_;refine⟨⟨i+1,hlt⟩,aL (by omega) (by simp[aS,fin_at,finA_at,upd_at,HV.men,HV.menL,HV.norm,HV.toC,HV.toCL,cH]) (by simp[aT,fob_at,upd_at,none0_at,bL,HO.men,HV.men,HV.menL,HV.norm,HV.toC,HV.toCL,cH]),?_⟩;show X.t.length-(i+1)<X.t.length-i;omega
   refine bD (T3 ?_);clear hK K;try refine⟨rfl,?_⟩
   exact key ⟨[112],1,rs.set k X⟩ q _ _ _ (iR hsz (by decide) k hXa hXt) rfl fun N code Q h=>aP5 X hk hr2 [112] 1 q (aL (by omega) (by simp[aS,fin_at,finA_at,upd_at,HV.men,HV.menL,HV.norm,HV.toC,HV.toCL,cH]) (by simp[aT,fob_at,upd_at,none0_at,bL,HO.men,HV.men,HV.menL,HV.norm,HV.toC,HV.toCL,cH])) h
  by_cases h1:rs.length=1
  ·
   obtain⟨R,rfl⟩:=List.length_eq_one_iff.1 h1;simp only[rlO,trH];refine cT mixed [(0,[],[]),(1,[],[]),(2,[],[]),(3,[],[]),(4,[],[]),(5,[],[]),(6,[],[]),(7,[],[0,1]),(8,[],[]),(9,[],[])] [0,1,0,4,0,16,48,124,255,511] (by kernel_rfl) (by kernel_rfl) (by kernel_rfl) (by kernel_rfl) rfl (by kernel_rfl) ?_;iterate 6 refine WG0 ?_
   refine cC (g:=none) rfl rfl fun K' hK'=>?_;simp only[sN,↓hopH.eq_def,sH,↓sP,sA,tyS,simprocAttr];refine AX (hK' _ _ ?_);clear hK' K';refine cG (g:=none) rfl rfl fun K' hK'=>T5 ?_;refine C2 (mF _ 1 (by omega) (by omega)) ?_;rintro u ⟨k,hk,rfl⟩;obtain rfl:k=0:=by omega
   refine AX (hK' _ _ ?_);clear hK' K';refine cC (g:=none) rfl rfl fun K' hK'=>?_;simp only[sN,↓hopH.eq_def,sH,↓sP,sA,tyS,simprocAttr,Int.natCast_nonneg,Int.ofNat_lt,Int.toNat_natCast,List.length_cons,List.length_nil];refine AX (hK' _ _ ?_);clear hK' K';refine WG0 ?_ (e:=fun _ h_=>by simp only[sH,↓sP,sA,tyS,simprocAttr,Int.natCast_nonneg,Int.ofNat_lt,Int.toNat_natCast,List.length_cons,List.length_nil];exact AX h_);refine T4 ?_;exact key [] 18 0 _ _ _ (by omega) (by omega) (by omega) (by simp) (aL (by omega) (by simp[aS,fin_at,finA_at,upd_at,HV.men,HV.menL,HV.norm,HV.toC,HV.toCL,dI,dJ,HO.close,HV.close,HV.closeL,CV.denil,CV.denilL,mvF,mvO,mvN,HV.ren,HV.renL,HO.ren,Rq.denil]) (by simp[aT,fob_at,upd_at,none0_at,bL,HO.men,HV.men,HV.menL,HV.norm,HV.toC,HV.toCL,dI,dJ,HO.close,HV.close,HV.closeL,CV.denil,CV.denilL,mvF,mvO,mvN,HV.ren,HV.renL,HO.ren,Rq.denil]))
  obtain⟨R,S,rfl⟩: ∃R S,rs=[R,S]:=by
   match rs,h1,hr1,hr2 with
   |[R],h,_,_=>simp at h
   |[R,S],_,_,_=>exact⟨R,S,rfl⟩
   |_::_::_::_,_,_,h=>simp at h
  simp only[rlO,trH];refine cT mixed [(0,[],[]),(1,[],[]),(2,[],[]),(3,[],[]),(4,[],[]),(5,[],[]),(6,[],[]),(7,[],[0,1]),(8,[],[]),(9,[],[])] [0,1,0,4,0,16,48,124,255,511] (by kernel_rfl) (by kernel_rfl) (by kernel_rfl) (by kernel_rfl) rfl (by kernel_rfl) ?_;iterate 6 refine WG0 ?_
  refine cC (g:=none) rfl rfl fun K' hK'=>?_;simp only[sN,↓hopH.eq_def,sH,↓sP,sA,tyS,simprocAttr];refine AX (hK' _ _ ?_);clear hK' K';refine cG (g:=none) rfl rfl fun K' hK'=>T5 ?_;refine C2 (mF _ 2 (by omega) (by omega)) ?_;rintro u ⟨k,hk,rfl⟩;have hk2:k<2:=by omega
  refine AX (hK' _ _ ?_);clear hK' K';refine cC (g:=none) rfl rfl fun K' hK'=>?_;simp only[sN,↓hopH.eq_def,sH,↓sP,sA,tyS,simprocAttr,Int.natCast_nonneg,Int.ofNat_lt,Int.toNat_natCast,List.length_cons,List.length_nil,hk2];refine AX (hK' _ _ ?_);clear hK' K';refine WG0 ?_ (e:=fun _ h_=>by simp only[sH,↓sP,sA,tyS,simprocAttr,Int.natCast_nonneg,Int.ofNat_lt,Int.toNat_natCast,List.length_cons,List.length_nil,hk2];exact AX h_);refine T4 ?_;obtain rfl|rfl:k=0∨k=1:=by omega
  · exact key [19] 18 0 _ _ _ (by omega) (by omega) (by omega) (by simp) (aL (by omega) (by simp[aS,fin_at,finA_at,upd_at,HV.men,HV.menL,HV.norm,HV.toC,HV.toCL,dI,dJ,HO.close,HV.close,HV.closeL,CV.denil,CV.denilL,mvF,mvO,mvN,HV.ren,HV.renL,HO.ren,Rq.denil,fob_at,upd_at,List.length_map,denilL_Nd,Pr.cv]) (by simp[aT,fob_at,upd_at,none0_at,bL,HO.men,HV.men,HV.menL,HV.norm,HV.toC,HV.toCL,dI,dJ,HO.close,HV.close,HV.closeL,CV.denil,CV.denilL,mvF,mvO,mvN,HV.ren,HV.renL,HO.ren,Rq.denil,fob_at,upd_at,List.length_map,denilL_Nd,Pr.cv]))
  exact key [18] 19 1 _ _ _ (by omega) (by omega) (by omega) (by simp) (aL (by omega) (by simp[aS,fin_at,finA_at,upd_at,HV.men,HV.menL,HV.norm,HV.toC,HV.toCL,dI,dJ,HO.close,HV.close,HV.closeL,CV.denil,CV.denilL,mvF,mvO,mvN,HV.ren,HV.renL,HO.ren,Rq.denil,fob_at,upd_at,List.length_map,denilL_Nd,Pr.cv]) (by simp[aT,fob_at,upd_at,none0_at,bL,HO.men,HV.men,HV.menL,HV.norm,HV.toC,HV.toCL,dI,dJ,HO.close,HV.close,HV.closeL,CV.denil,CV.denilL,mvF,mvO,mvN,HV.ren,HV.renL,HO.ren,Rq.denil,fob_at,upd_at,List.length_map,denilL_Nd,Pr.cv]))
 refine Rg ?_;have F:=@denilL_int;refine SF ?_;refine HS rfl rfl fun K' hK'=>T6 ?_;refine eZ [] (bZ5 L 150) rfl trivial (by simp) (by simp) ⟨rfl,rfl,rfl,rfl⟩ (by simp[eH]) (by simp[HV.menL,HV.men]) ?_;rintro r os' ⟨rfl,rfl⟩;rw[bS0,bG9];refine AX (hK' _ _ ?_);clear hK' K';refine HS rfl rfl fun K' hK'=>T6 ?_;refine eZ [13] (bS8 (L.take 150) 0 1 (by omega)) rfl ⟨rfl,trivial⟩ (by simp) (by simp) ⟨rfl,rfl,rfl,rfl⟩ (by simp[eH,HO.men,HV.men,HV.menL]) (by simp[HV.menL,HV.men]) ?_;rintro r os' ⟨rs,a7,rfl,rfl,hrs,hr1,-⟩;rw[cB3 _ _ _ _ _ _ rs (by have:=hrs.two;omega),bU1];refine AX (hK' _ _ ?_);clear hK' K';iterate 2 refine SF ?_
 refine T4 ?_
 match rs,hrs,hr1 with
 |[R],hrs,hr1=>exact key [R] _ _ _ hrs hr1 (by simp only[trH];exact aL (by omega) (by simp[aS,fin_at,finA_at,upd_at,HV.men,HV.menL,HV.norm,HV.toC,HV.toCL,bI1,rlO]) (by simp[aT,fob_at,upd_at,none0_at,bL,HO.men,HV.men,HV.menL,HV.norm,HV.toC,HV.toCL,bI1,rlO]))
 |[R,S],hrs,hr1=>exact key [R,S] _ _ _ hrs hr1 (by simp only[trH];exact aL (by omega) (by simp[aS,fin_at,finA_at,upd_at,HV.men,HV.menL,HV.norm,HV.toC,HV.toCL,bI1,rlO]) (by simp[aT,fob_at,upd_at,none0_at,bL,HO.men,HV.men,HV.menL,HV.norm,HV.toC,HV.toCL,bI1,rlO]))
 |_::_::_::_,hrs,_=>have:=hrs.two;simp at this
set_option maxRecDepth 100000
theorem yC {W:World}(h:laidMetH Tryz.prog Rows.policyChangedRow.laid W):Lib.TabIs Tryz.prog W "internal/strconv.uint64pow10" .u64 Lib.pow10Tab:=by
  rw[MakeChecks.laidMetH_plain _ _ _ (by kernel_rfl)]at h;have h2:=laidMet.filter (fun x=>x.1== "internal/strconv.uint64pow10") h;have e:(Rows.policyChangedRow.laid.filter fun x=>x.1== "internal/strconv.uint64pow10")=[("internal/strconv.uint64pow10",Lib.tabData .u64 Lib.pow10Tab)]:=by kernel_rfl
  rw[e]at h2;exact Lib.tabIs_of_head aG2 (by kernel_rfl) Tryz.underlying169 Tryz.underlying116 (by kernel_rfl) (by kernel_rfl) h2
theorem mH (H:Type)(enc:TypeId×Value→H)(W:World)(args:Array Value)(ds gs:List (DataW H))(before:List MemPlace)
    (hL:laidMetH Tryz.prog Rows.policyChangedRow.laid W)
    (hval: ∀(j:Nat) t v,Tryz.f6.params[j]? =some t→args[j]? =some v→Value.okWide Tryz.prog W .any 0 t v)
    (hW:DataW.Whole enc Tryz.prog Tryz.f6.params.toList Rows.policyChangedSpec.vars false W args.toList ds gs before):
    Calls Tryz.prog 6 args W fun e W'=> ∃v,e= .returned v∧Rows.policyChangedSpec.post enc Tryz.prog Tryz.f6 false true false false W args v W':=by
  refine bD5 (mm:=6) (tb:=4) (tabs:=tabs) (by kernel_rfl) kids aU0 rfl (by kernel_rfl) Tryz.underlying4 ?_ ?_ ?_ ?_ (fun j t v h1 h2=>?_) hW
  · rw[Tryz.params6]
    intro H ds h
    match ds,h with
    |[c0,c1,c2,c3,c4],_=>exact⟨rfl,rfl,rfl⟩
  · rw[Tryz.params6]
    intro t ht;simp only[List.mem_cons,List.not_mem_nil,or_false]at ht;rcases ht with rfl|rfl|rfl|rfl|rfl
    · exact⟨by kernel_rfl,of_decide_eq_true (by kernel_rfl)⟩
    · exact⟨by kernel_rfl,of_decide_eq_true (by kernel_rfl)⟩
    · exact⟨by kernel_rfl,of_decide_eq_true (by kernel_rfl)⟩
    · exact⟨by kernel_rfl,of_decide_eq_true (by kernel_rfl)⟩
    · exact⟨by kernel_rfl,of_decide_eq_true (by kernel_rfl)⟩
  · rw[Tryz.params6]
    intro cs hn hty
    match cs,hn,hty with
    |[c0,c1,c2,c3,c4],_,hty=>
      obtain⟨L,rfl,hw,hl⟩:=bY6 (hty 0 _ c0 rfl rfl);obtain⟨w,rfl,_⟩:=(hty 1 _ c1 rfl rfl).of_int Tryz.underlying3;obtain⟨n,rfl,_⟩:=(hty 2 _ c2 rfl rfl).of_int Tryz.underlying2;obtain⟨s,rfl,hs⟩:=(hty 3 _ c3 rfl rfl).of_str Tryz.underlying9;obtain⟨q,rfl,hq⟩:=cJ7 (hty 4 _ c4 rfl rfl);exact aP6 L w n s q (by unfold maxLen at hq;omega)
  · intro x hx
    simp only[tabs,List.mem_cons,List.not_mem_nil,or_false]at hx;rcases hx with rfl
    · exact xV aG2 (yC hL)
  · exact hval j t v h1 h2
open Go.ChangeShapes Go.WideShapes Go.ChangeAt Go.RowKit in
set_option maxRecDepth 100000 in
theorem oC (os:Os)(started:os.Started)(H:Type)(enc:TypeId×Value→H):
    ReturnsInHanded {} Tryz.checked os 6 .any (fun w args=>(Rows.policyChangedSpec.pre enc Tryz.prog Tryz.f6 [] false w args∧laidMetH Tryz.prog Rows.policyChangedRow.laid w)∧sizedMet enc Tryz.prog Tryz.f6 (OpenSpec.ofChange Rows.policyChangedSpec) false w args)
      (Rows.policyChangedSpec.post enc Tryz.prog Tryz.f6 false true false false):=by
  refine returnsInHanded_of_change_and (C:=Tryz.checked) (X:=fun w _=>laidMetH Tryz.prog Rows.policyChangedRow.laid w) (fun _ _ _ hh h=>h.of_heap hh) own started (by kernel_rfl) Tryz.func6
    (ChangeSpec.witness_shaped (enc:=enc) (C:=Tryz.checked) (os:=os) (X:=fun w _=>laidMetH Tryz.prog Rows.policyChangedRow.laid w) false (World.laidAll Tryz.prog os Rows.policyChangedRow.laid) #[.slice none 0 0,.int .i64 0,.int .i64 0,.string ⟨#[]⟩,.agg #[.int .i64 0,.int .i64 0,.int .i64 0,.string ⟨#[]⟩]] 8 (World.laidAll_os _ _ _)
      (World.shaped_of_ZipB (by kernel_rfl) (by kernel_rfl)) (by kernel_rfl) (by kernel_rfl) (by kernel_rfl)
      (by rw[MakeChecks.laidMetH_plain _ _ _ (by kernel_rfl)];exact laidMet_laidAll _ (by kernel_rfl) (by kernel_rfl))) ?_
  intro W base args ds gs before hval hW _ _ hL _;exact mH H enc W args ds gs before hL (fun j t v h1 h2=>(hval j t v h1 h2)) hW
theorem rL :Rows.PolicyChangedSaid:=
  OpenClaim.holds_of_wide 6 Tryz.f6 rfl rfl rfl rfl rfl rfl rfl ⟨rfl,rfl,rfl,rfl,rfl⟩ rfl rfl rfl rfl rfl (by kernel_rfl) Tryz.func6 (by kernel_rfl)
    (of_decide_eq_true (by kernel_rfl)) (by unfold Func.isWrapper;first|(rw[if_pos (by decide+kernel)];kernel_rfl)|(rw[if_neg (by decide+kernel)];exact⟨rfl,rfl⟩))
    (fun os started H enc _=>oC os started H enc)
theorem policyChanged_said :Rows.PolicyChangedCardSaid:=
  Claim7.holds_tied_plain_at .later [] [.data,.data,.data,.data,.pinned] true (true,"ff5d47cd62c7d13f21802cca9c8b9512cc3c2844dd4407b78ea0f3c0525ec3f2") false rL (fun _ h=>by cases h) (by kernel_rfl) (fun _ h=>by cases h) policyChanged_row_tie rfl ⟨rfl,rfl⟩ (by kernel_rfl) rfl
    (fun f fn hf hfn=>by
      obtain rfl:f=6:=Option.some.inj ((show Tryz.prog.funcNamed "admission/admissionlaw28.PolicyChanged" =some 6 by kernel_rfl).symm.trans hf)|>.symm;obtain rfl:fn=Tryz.f6:=(Option.some.inj (Tryz.func6.symm.trans hfn)).symm;exact⟨by kernel_rfl,fun j t ht=>by
        rw[Tryz.params6]at ht;have hm:t∈[23,3,2,9,38]:=by simpa using Array.mem_of_getElem? ht
        have hall:([23,3,2,9,38].all fun u=>!Tryz.prog.wantsStandIn u)=true:=by kernel_rfl
        exact(show Tryz.prog.wantsStandIn t=false by simpa using List.all_eq_true.1 hall t hm)⟩)
    (by kernel_rfl)
#print axioms policyChanged_said
end Go.Proofs.YtlldglbooaefhaaGreatDoor
