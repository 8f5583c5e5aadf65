/- Part of a proof: walks of functions of the program, by contracts, and the rules they use. By an AI agent. -/
import Derived.Test.YtlgckianjabghaaGreatDoorHlG3
set_option maxRecDepth 10000
set_option maxHeartbeats 16000000
set_option linter.unusedSimpArgs false
set_option linter.unusedVariables false
set_option linter.defProp false
namespace Go.Proofs.YtlgckianjabghaaGreatDoor
open Go Go.Hl Go.Pl
theorem cN7 (b:aH):LsB (decO b):=fun l hl w hw=>by
 have:=(aM3 (b:=b) l hl).2.2 w hw;omega
theorem bT5 (a b:aH):cG Tryz.prog 26 [.slc (a.map dG),.slc (b.map dG)] (fun v=>v= .bool (a==b)):=by
 refine FW Tryz.func26 ?_;refine R0 ?_;refine RS ?_;have F:=@bytesC_map;refine AU ?_;refine aE (RT Tryz.results26 ?_);exact aK [] (.bool (a==b)) rfl rfl
theorem bL6 (b:aH)(hl:b.length<2^40):bL5 Tryz.prog 10 tabs [.slc (b.map u8)] (fun u v x=>u=(dpO b).cv∧v= .int .i64 (dpL b:Nat)∧x= .int .i64 (dpE b)):=by
 refine cA (args:=[.c (.slc (b.map u8))]) Tryz.func10 rfl (by kernel_rfl) (gT tabs [.slc (b.map u8)]) (C4 rfl) ?_;unfold fX;have hlen:=aV3 (b:=b);refine R0 ?_;refine aC fun K hK=>Rg ?_;have F:=@denilL_u8;refine SF ?_;refine HS rfl rfl fun K' hK'=>T6 ?_;refine D1 (cT9 b hl) ?_;rintro u v ⟨rfl,rfl⟩;refine AX (hK' _ _ ?_);clear hK' K';iterate 5 refine SF ?_
 refine T2 (hK _ _ _ ?_);clear hK K;refine aC fun K hK=>?_;refine R0 ?_;refine aF (b:=!(dZ b==0)) rfl (fun hb=>?_) (fun hb=>?_)
 ·
  have he:dZ b≠0:=by simpa using hb
  have e1:dpE b=dZ b:=by rw[dpE,B6 he]
  have e2:dpL b=0:=by rw[dpL,B6 he]
  have e3:dpO b=po0:=by rw[dpO,e1,A7 he]
  clear hb;refine aC fun K hK=>Rg ?_;iterate 5 refine S0 ?_
  refine T2 (hK _ _ _ ?_);clear hK K;refine aE (RT Tryz.results10 ?_);exact kC [] po0.cv (.int .i64 0) (.int .i64 (dZ b)) (by simp[po0,Po.cv]) rfl (by simp) (by rw[e1,e2,e3];exact⟨rfl,rfl,rfl⟩)
 refine aJ ?_;refine T0 (hK _ _ _ ?_);clear hK K;have he:dZ b=0:=by simpa using hb
 clear hb;refine aC fun K hK=>Rg ?_;iterate 4 refine S0 ?_
 refine T2 (hK _ _ _ ?_);clear hK K;refine aC fun K hK=>Rg ?_;refine S0 ?_;refine HS rfl rfl fun K' hK'=>T5 ?_;refine fD (args:=[]) (cF7 (decO b) (by omega)) rfl (by simp) ⟨rfl,rfl,rfl,rfl⟩ ?_;rintro u x v' ⟨q,rfl,rfl,rfl,hq⟩;refine AX (hK' _ _ ?_);clear hK' K';iterate 5 refine S0 ?_
 refine T2 (hK _ _ _ ?_);clear hK K;refine aC fun K hK=>?_;refine R0 ?_;refine aF (b:=!(rdP (decO b)).1.isSome) rfl (fun hb=>?_) (fun hb=>?_)
 ·
  have hno:(rdP (decO b)).1=none:=by simpa using hb
  have e1:dpE b=2:=by rw[dpE,A7 (by simpa using he),hno]
  have e2:dpL b=(decO b).length-(rdP (decO b)).2.length:=by
   rw[dpL,A7 (by simpa using he)]
   match h:rdP (decO b)with
   |(none,r)=>rfl
   |(some p,r)=>rw[h]at hno;cases hno
  have e3:dpO b=po0:=by rw[dpO,e1,A7 (by decide)]
  clear hb;refine aC fun K hK=>DW [(0,[],[]),(1,[],[]),(2,[],[]),(3,[],[]),(4,[],[]),(5,[],[1,2,3,4]),(6,[],[]),(7,[],[])] [0,0,2,6,14,1,63,127] ?_;iterate 8 refine W0 ?_ (e:=fun _ h_=>by simp only[sH,↓sP,sA,tyS,simprocAttr,rdr];exact AX h_)
  refine T2 (hK _ _ _ ?_);clear hK K;refine aE (RT Tryz.results10 ?_);exact kC [] po0.cv (.int .i64 ((decO b).length-(rdP (decO b)).2.length:Nat)) (.int .i64 2) (by simp[po0,Po.cv]) rfl (by simp) (by rw[e1,e2,e3];exact⟨rfl,rfl,rfl⟩)
 refine aJ ?_;refine T0 (hK _ _ _ ?_);clear hK K;refine aC fun K hK=>?_;obtain⟨p,hp⟩: ∃p,(rdP (decO b)).1=some p:=by
  cases h:(rdP (decO b)).1 with
  |none=>rw[h]at hb;simp at hb
  |some p=>exact⟨p,rfl⟩
 obtain rfl:=hq p hp;have hsz:=cQ2 (cN7 b) (by omega) hp;have hr:rdP (decO b)=(some q,(rdP (decO b)).2):=CZ hp rfl;have hiff:=cT2 he hr;have e1:dpE b=if fA q then 0 else 1:=by rw[dpE,A7 (by simpa using he),hp]
 have e2:dpL b=0:=by rw[dpL,A7 (by simpa using he),hr]
 clear hb;refine aC fun K hK=>Rg ?_;refine S0 ?_;refine HS rfl rfl fun K' hK'=>T5 ?_;refine wI (args:=[_]) 0 (bL4 q hsz) rfl (by simp) ⟨rfl,rfl,rfl,rfl⟩ ?_;rintro u v ⟨rfl,rfl⟩;refine AX (hK' _ _ ?_);clear hK' K';iterate 5 refine S0 ?_
 refine T2 (hK _ _ _ ?_);clear hK K;refine aC fun K hK=>Rg ?_;have F:=aI @dE @denilL_u8;iterate 3 refine SF ?_
 refine aG 40 rfl (fun h9_40=>?_) (fun h9_40=>?_)
 ·
  have F:=aI @dE (aI @denilL_u8 h9_40);iterate 5 refine SF ?_
  refine T2 (hK _ _ _ ?_);clear hK K;refine CT rfl ?_;refine aC fun K hK=>Rg ?_;have F:=h9_40;iterate 4 refine SF ?_
  refine T2 (hK _ _ _ ?_);clear hK K;refine aE (RT Tryz.results10 ?_);have hpo:fA q=false:=by
   cases h:fA q with
   |false=>rfl
   |true=>exact absurd (hiff.2 h).1 (by simpa using h9_40)
  rw[hpo]at e1;have e1:dpE b=1:=e1;have e3:dpO b=po0:=by rw[dpO,e1,A7 (by decide)]
  exact kC [] po0.cv (.int .i64 0) (.int .i64 1) (by simp[po0,Po.cv]) rfl (by simp) (by rw[e1,e2,e3];exact⟨rfl,rfl,rfl⟩)
 have F:=aI @dE (aI @denilL_u8 h9_40);iterate 2 refine SF ?_
 refine aW (g:=some (41,false)) rfl rfl fun K' hK'=>T6 ?_;refine C2 (bT5 (mI q) b) ?_;rintro u rfl;refine AX (hK' _ _ ?_);clear hK' K';iterate 2 refine SF ?_
 refine aG 44 rfl (fun h9_44=>?_) (fun h9_44=>?_)
 ·
  simp only[h9_44];refine T2 (hK _ _ _ ?_);clear hK K;refine CF rfl ?_;refine aJ ?_;refine T0 (hK _ _ _ ?_);clear hK K;refine aC fun K hK=>Rg ?_;have F:=aI h9_40 h9_44;iterate 4 refine SF ?_
  refine T2 (hK _ _ _ ?_);clear hK K;refine aE (RT Tryz.results10 ?_);have hpo:fA q=true:=hiff.1 ⟨by simpa using h9_40,by simpa using h9_44⟩;rw[hpo]at e1;have e1:dpE b=0:=e1;have e3:dpO b=q:=by rw[dpO,B6 e1,hp];rfl
  exact kC [] q.cv (.int .i64 0) (.int .i64 0) (by simp[Po.denil]) rfl (by simp) (by rw[e1,e2,e3];exact⟨rfl,rfl,rfl⟩)
 simp only[h9_44];refine T2 (hK _ _ _ ?_);clear hK K;refine CT rfl ?_;refine aC fun K hK=>Rg ?_;have F:=aI h9_40 h9_44;iterate 4 refine SF ?_
 refine T2 (hK _ _ _ ?_);clear hK K;refine aE (RT Tryz.results10 ?_);have hpo:fA q=false:=by
  cases h:fA q with
  |false=>rfl
  |true=>exact absurd (hiff.2 h).2 (by simpa using h9_44)
 rw[hpo]at e1;have e1:dpE b=1:=e1;have e3:dpO b=po0:=by rw[dpO,e1,A7 (by decide)]
 exact kC [] po0.cv (.int .i64 0) (.int .i64 1) (by simp[po0,Po.cv]) rfl (by simp) (by rw[e1,e2,e3];exact⟨rfl,rfl,rfl⟩)
theorem cN8 (ns im:aH)(r:Pr):cG Tryz.prog 64 [r.cv,.rp (.str ns),.rp (.str im)] (fun v=>v= .bool (aG7 ns im r)):=by
 refine FW Tryz.func64 ?_;refine AU ?_;refine SC (aW9 r.b ns) ?_;refine S0 ?_;refine aG 8 rfl (fun h1_8=>?_) (fun h1_8=>?_)
 · have F:=h1_8;refine AU ?_;refine SCF (aW9 r.c im) ?_;refine AU ?_;refine aE (RT Tryz.results64 ?_);exact aK [] (.bool _) rfl (by simp only[aG7,h1_8,D4,C9,B1,B7])
 have F:=h1_8;refine AU ?_;refine aE (RT Tryz.results64 ?_);exact aK [] (.bool _) rfl (by simp only[aG7,h1_8,D4,C9,B1,B7])
def bT6 (l:List Pr)(p:Pr→Bool):Int:=match l.findIdx? p with|some i=>(i:Int)|none=> -1
variable {p:Pr→Bool}{l:List Pr}
theorem cG1 {i:Nat}(hi:i<l.length)(h:p l[i]=true)(h0: ∀j (hj:j<i),p (l[j]'(by omega))=false):bT6 l p=i:=by
 have:l.findIdx? p=some i:=by
  rw[J1];exact⟨hi,h,fun j hj=>by rw[h0 j hj];simp⟩
 rw[bT6,this]
theorem bT7 (h0: ∀j (hj:j<l.length),p l[j]=false):bT6 l p= -1:=by
 have:l.findIdx? p=none:=by
  rw[O0];intro r hr;obtain⟨j,hj,rfl⟩:=L4 hr;exact h0 j hj
 rw[bT6,this]
theorem cN9 (l:List Pr)(g:FuncId)(caps:List CV)(p:Pr→Bool)(hl:l.length<2^40)(hp: ∀r∈l,cG Tryz.prog g (r.cv::caps) (fun v=>v= .bool (p r))):
  bV8 Tryz.prog 63 [.c (.slc (l.map Pr.cv)),.clo g (caps.map .c)] (fun v=>v= .int .i64 (bT6 l p)):=by
 refine cA Tryz.func63 rfl (by kernel_rfl) (bG9 (by simp[HV.menL_c])) (C4 rfl) ?_;refine R0 ?_;refine aC fun K hK=>?_;refine R0 ?_;refine aM ?_;refine bN (α:={i:Nat//i≤l.length∧ ∀j (hj:j<i) (h:j<l.length),p l[j]=false}) (fun i=>(fin [(0,.c (.slc (l.map Pr.cv))),(1,.clo g (caps.map .c)),(7,.c (.int .i64 l.length)),(8,.c (.int .i64 i.1))],fob [])) 100 (fun i=>l.length-i.1) ⟨0,by omega,fun j hj=>by omega⟩ (aP (by omega) (by simp[HV.menL_c]) (by simp)) ?_;rintro⟨i,hi,h0⟩;refine R0 ?_;refine aC fun K hK=>?_;refine aF (b:=decide ((i:Int)<l.length)) rfl (fun hb=>?_) (fun hb=>?_)
 ·
  have hlt:i<l.length:=by simpa using hb
  clear hb;refine aJ ?_;refine T0 (hK _ _ _ ?_);clear hK K;refine aC fun K hK=>?_;refine aM ?_;refine R0 ?_;refine aC fun K hK=>Rg ?_;have F:=aI @A0 (aI @A4 (aI hlt (nM hlt)));refine AU ?_;refine HS rfl rfl fun K' hK'=>T6 ?_;refine jK (args:=l[i].cv::caps) (hp _ (C0 hlt)) ⟨rfl,rfl,rfl,rfl⟩ ?_;rintro u rfl;refine AX (hK' _ _ ?_);clear hK' K';refine T2 (hK _ _ _ ?_);clear hK K;refine aF (b:=p l[i]) rfl (fun hb=>?_) (fun hb=>?_)
  · refine R0 ?_;refine aE (RT Tryz.results63 ?_);exact aK [] (.int .i64 i) rfl (by rw[cG1 hlt hb fun j hj=>h0 j hj (by omega)])
  refine aJ ?_;refine T0 (hK _ _ _ ?_);clear hK K;refine aL (by kernel_rfl) ?_;refine TQ (A8 ((i:Int)+1) (by omega)) ?_;refine⟨⟨i+1,hlt,fun j hj h=>?_⟩,aP (by omega) (by simp[HV.menL_c]) (by simp),?_⟩
  ·
   rcases H0 j i with h1|h1
   · exact h0 j h1 h
   obtain rfl:j=i:=by omega
   exact hb
  show l.length-(i+1)<l.length-i;omega
 refine bG (T3 ?_);clear hK K;refine AX (hK _ _ _ ?_);clear hK K;refine R0 ?_;refine aE (RT Tryz.results63 ?_);have hei:i=l.length:=by simp at hb;omega
 subst hei;exact aK [] (.int .i64 (-1)) rfl (by rw[bT7 fun j hj=>h0 j hj hj])
theorem cO0 (p:Po)(hp:PoSz p)(ns im:aH):cG Tryz.prog 33 [p.cv,.str ns,.str im] (fun v=>v= .int .i64 (cA6 p ns im)):=by
 refine FW Tryz.func33 ?_;refine RS ?_;iterate 4 refine S0 ?_
 refine RE ?_;refine aC fun K hK=>?_;refine AU ?_;refine SC (vL p hp) ?_;refine AU ?_;refine aF (b:=!fA p) rfl (fun hb=>?_) (fun hb=>?_)
 · refine R0 ?_;refine aE (RT Tryz.results33 ?_);exact aK [] (.int .i64 (-1)) rfl (by rw[cA7 (by simpa using hb)])
 refine aJ ?_;refine T0 (hK _ _ _ ?_);clear hK K;have hv:fA p=true:=by simpa using hb
 clear hb;refine aD7 4 4 rfl rfl ?_;refine aD7 5 8 rfl rfl ?_;refine aC fun K hK=>Rg ?_;have F:=aI @cI5 @upd_at;refine AU ?_;refine HS rfl rfl fun K' hK'=>T6 ?_;refine bB0 (cN9 p.r 64 [.rp (.str ns),.rp (.str im)] (aG7 ns im) hp.r fun r _=>cN8 ns im r) (by simp) (fun m=>by simp) ⟨rfl,rfl,rfl,rfl⟩ ?_;rintro u rfl;refine AX (hK' _ _ ?_);clear hK' K';refine SF ?_;refine T2 (hK _ _ _ ?_);clear hK K;refine aE (RT Tryz.results33 ?_);exact aK [] (.int .i64 (bT6 p.r (aG7 ns im))) rfl (by rw[cA6,B6 hv];rfl)
def ShN (T:List Nd):Prop:= ∀n∈T,n.q.t.length<2^63
variable {T:List Nd}
theorem ShN.set (h:ShN T)(i:Nat){x:Nd}(hx:x.q.t.length<2^63):ShN (T.set i x):=fun n hn=>by
 rcases K4 hn with h1|rfl
 · exact h n h1
 exact hx
theorem cG2 (n:Nat):HV.ren (sub [] n) (.ptr 0 0)= .ptr n 0:=by simp[HV.ren,sub]
theorem bT8 (n:Nat)(ob:Ob)(t:TypeId)(v:CV):jG (sub [] n) ob 0 [.box t (.c v)]=upd ob n (some (.box t (.c v))):=by simp[jG,sub,HO.ren,HV.ren]
def aB :Nat→Nat
 |0=>4
 |d+1=>8+3*aB d
theorem aY9 : ∀d,d≤3→aB d≤400:=by decide
theorem cQ4 : ∀d,d≤3→4≤aB d:=by decide
variable {d:Nat}
theorem cV1 {n:Nat}(hd:d≤3){p:Nat×Nat}(h:p∈pos d n):p.1≤60:=by
 rcases H0 n 9 with hn|hn
 ·
  have key: ∀d,d<4→ ∀n,n<9→ ∀p∈pos d n,p.1≤60:=by decide+kernel
  exact key d (by omega) n hn p h
 cases d with
 |zero=>simp[pos]at h;subst h;simp
 |succ d=>
  rw[pos,qM,A7 (by omega)]at h;simp at h;subst h;simp
theorem aZ0 {n:Nat}{t:List Nd}(h:Made d n t)(hd:d≤3):t.length≤60:=cV1 hd h.pos
variable {X:List CV}{L:List Int}{ob:Ob}
theorem aZ1 {a m a':Nat}{t:List Nd}(h0:ob 0=some (.box 59 (.c (tp L a'))))(h1:ob 1=some (.row 56 7 X))(hm:m=(T++t).length)(hX:X=(T++t).map Nd.cv)(hM:Made d T.length t)(ha:a'≤a+aB d):
  lC 2 (.own 1 m) ob (fun r ob'=> ∃os',ob'=lst os'∧(2≤os'.length∧os'.length≤2+4)∧ ∃(t:List Nd) (a':Nat),r= .own 1 (T++t).length∧os'=[.box 59 (.c (tp L a')),.row 56 7 ((T++t).map Nd.cv)]∧Made d T.length t∧a'≤a+aB d):=by
 subst hm hX;exact dS [] [] (.own 1 (T++t).length) [.box 59 (.c (tp L a')),.row 56 7 ((T++t).map Nd.cv)] rfl (by simp) ⟨⟨by simp,by simp,_,h0,by simp[fC,tp,denilL_int]⟩,⟨by simp,by simp,_,h1,rfl⟩,trivial⟩ rfl I3 (by simp) (by simp) ⟨t,a',rfl,rfl,hM,ha⟩
theorem cG3 (n:Nat)(ob:Ob)(e:TypeId)(sz:Nat)(v:CV)(L:List CV)(t:TypeId):jG (sub [0,1] n) ob 0 [.box t (.c v),.row e sz L]=upd (upd ob 0 (some (.box t (.c v)))) 1 (some (.row e sz L)):=rfl
theorem cO1 (n m:Nat):HV.ren (sub [0,1] n) (.own 1 m)= .own 1 m:=rfl
theorem dA2 (L:List Int)(a:Nat)(T:List Nd):lst [.box 59 (.c (tp L a)),.row 56 7 (T.map Nd.cv)]=fob [(0,.box 59 (.c (tp L a))),(1,.row 56 7 (T.map Nd.cv))]:=by
 funext i
 match i with
 |0=>rfl
 |1=>rfl
 |i+2=>simp[lst,fob,upd]
abbrev dC8 (L:List Int)(a d:Nat)(T:List Nd)(r:HV)(os':List HO):Prop:=
 ∃(t:List Nd) (a':Nat),r= .own 1 (T++t).length∧os'=[.box 59 (.c (tp L a')),.row 56 7 ((T++t).map Nd.cv)]∧Made d T.length t∧a'≤a+aB d
theorem cV2 (d:Nat): ∀(L:List Int) (a:Nat) (T:List Nd),d≤3→a+aB d<2^38→0<T.length→T.length<2^38→
  HGe Tryz.prog 41 [.ptr 0 0,.own 1 T.length,.c (.int .i64 d)] [.box 59 (.c (tp L a)),.row 56 7 (T.map Nd.cv)] (dC8 L a d T):=by
 induction d using Nat.strongRecOn with
 |ind d ih=>?_
 intro L a T hd ha hT0 hTl;refine cA (args:=[.ptr 0 0,.own 1 T.length,.c (.int .i64 d)]) Tryz.func41 rfl (by kernel_rfl) (eM rfl (by simp[dO]) (by simp)) (C4 rfl) ?_;show Hw _ _ 2 _ _ _ (lst _) 2;rw[dA2];have hab:=aY9 d hd;have hw1: ∀x:Int,0≤x→x<100→IntKind.i64.wrap (1+x)=1+x:=fun x h1 h2=>A8 _ (by omega);have hw2: ∀x:Int,0≤x→x<100→IntKind.i64.wrap (2+x)=2+x:=fun x h1 h2=>A8 _ (by omega);refine R0 ?_;refine aC fun K hK=>?_;refine aC fun K hK=>?_;have key: ∀(b:Bool) (a1:Nat) fr ob nx,(b=false→0<d∧T.length≤8)→a1≤a+1→Fits 2 fr ob (fin [(0,.ptr 0 0),(1,.own 1 T.length),(2,.c (.int .i64 d)),(20,.c (.bool b))]) (fob [(0,.box 59 (.c (tp L a1))),(1,.row 56 7 (T.map Nd.cv))]) 200→K fr ob nx:=by
  rintro b a1 fr ob nx hbf ha1 hf;refine hK _ _ _ (bB hf ?_);clear hf hK K;refine aF (b:=b) rfl (fun hb=>?_) (fun hb=>?_)
  · clear hbf;refine aC fun K hK=>Rg ?_;refine AU ?_;refine HS rfl rfl fun K' hK'=>T5 ?_;refine cC (args:=[]) (bK1 L a1 (by omega)) rfl (by simp) ⟨rfl,rfl,rfl,rfl⟩ ?_;rintro u v' ⟨q,a2,rfl,rfl,s1,s2⟩;refine AX (hK' _ _ ?_);clear hK' K';refine AU ?_;refine T2 (hK _ _ _ ?_);clear hK K;refine aE (RT Tryz.results41 ?_);have:=cQ4 d hd;exact aZ1 (t:=[⟨1,0,0,q⟩]) rfl rfl (by simp) (by simp) (aG3 s2) (by omega)
  obtain⟨hd0,hT8⟩:=hbf hb;clear hbf hb;refine aJ ?_;refine T0 (hK _ _ _ ?_);clear hK K;refine aC fun K hK=>Rg ?_;refine S0 ?_;refine HS rfl rfl fun K' hK'=>T5 ?_;refine cC (args:=[_]) (eZ L a1 3 (by omega) (by omega)) rfl (by simp) ⟨rfl,rfl,rfl,rfl⟩ ?_;rintro u v' ⟨x,a2,rfl,rfl,h1,h2,h3,h4⟩;refine AX (hK' _ _ ?_);clear hK' K';refine AU ?_;refine HS rfl rfl fun K' hK'=>T5 ?_;refine cC (args:=[_]) (eZ L a2 3 (by omega) (by omega)) rfl (by simp) ⟨rfl,rfl,rfl,rfl⟩ ?_;rintro u v' ⟨y,a3,rfl,rfl,g1,g2,g3,g4⟩;refine AX (hK' _ _ ?_);clear hK' K';refine AU ?_;refine T2 (hK _ _ _ ?_);clear hK K;refine aC fun K hK=>?_;have key2: ∀(k c N:Int) (a4:Nat) fr ob nx,(1≤c∧c≤3)→k≠1→cB ⟨k,N,c,rq0⟩=true→a4≤a+4→Fits 2 fr ob (fin [(0,.ptr 0 0),(1,.own 1 T.length),(2,.c (.int .i64 d)),(7,.ptr 228 0)]) (fob [(0,.box 59 (.c (tp L a4))),(1,.row 56 7 (T.map Nd.cv)),(228,.box 56 (.c (Nd.cv ⟨k,N,c,rq0⟩)))]) 700→K fr ob nx:=by
   rintro k c N a4 fr ob nx ⟨hc1,hc3⟩ hk1 hnode ha4 hf;refine hK _ _ _ (bB hf ?_);clear hf hK K;refine RS ?_;iterate 5 refine S0 ?_
   refine RE ?_;refine aC fun K hK=>?_;refine R0 ?_;refine aM ?_;refine bN (α:={w:List Nd×Nat×Nat//MadeK (d-1) T.length w.2.1 w.1∧w.2.2≤a+4+w.2.1*aB (d-1)∧(w.2.1:Int)≤c∧w.1.length≤60*w.2.1}) (fun w=>(fin [(0,.ptr 0 0),(1,.own 1 (T.length+1+w.1.1.length)),(2,.c (.int .i64 d)),(7,.ptr 228 0),(8,.c (.int .i64 w.1.2.1))],fob [(0,.box 59 (.c (tp L w.1.2.2))),(1,.row 56 7 ((T++⟨k,N,c,rq0⟩::w.1.1).map Nd.cv)),(228,.box 56 (.c (Nd.cv ⟨k,N,c,rq0⟩)))])) 2000 (fun w=>10-w.1.2.1) ⟨([],0,a4),MadeK.zero _ _,by simp only;omega,by simp only;omega,by simp⟩ (fF) ?_;rintro⟨⟨ts,j,a5⟩,i1,i2,i3,i4⟩;simp only at i1 i2 i3 i4;refine aC fun K hK=>?_;refine AU ?_;refine aF (b:=decide ((j:Int)<c)) rfl (fun hb=>?_) (fun hb=>?_)
   ·
    have hjc:(j:Int)<c:=by simpa using hb
    clear hb;obtain⟨M,hM⟩: ∃M,M=T++⟨k,N,c,rq0⟩::ts:=⟨_,rfl⟩;have hMl:T.length+1+ts.length=M.length:=by rw[hM];simp;omega
    rw[←hM,hMl];have hwd:IntKind.i64.wrap ((d:Int)-1)=((d-1:Nat):Int):=by rw[A8 _ (by omega)];omega
    have hab1:=aY9 (d-1) (by omega);have hj3:j≤2:=by omega
    have hja:j*aB (d-1)≤2*aB (d-1):=I8 _ hj3;have hdd:aB d=8+3*aB (d-1):=by
     obtain⟨e,rfl⟩: ∃e,d=e+1:=⟨d-1,by omega⟩;rfl
    refine aJ ?_;refine T0 (hK _ _ _ ?_);clear hK K;refine aC fun K hK=>?_;refine aM ?_;refine Rg ?_;have F:=hwd;refine AU ?_;refine HS rfl rfl fun K' hK'=>T6 ?_;refine eG [0,1] (ih (d-1) (by omega) L a5 M (by omega) (by omega) (by omega) (by omega)) rfl ⟨rfl,rfl,trivial⟩ (by simp) (by simp) ⟨rfl,rfl,rfl,rfl⟩ (by simp[dO]) (by simp) ?_;rintro r os' ⟨t,a6,rfl,rfl,ht,ha6⟩;rw[cG3,cO1];refine AX (hK' _ _ ?_);clear hK' K';refine SF ?_;refine T2 (hK _ _ _ ?_);clear hK K;refine aL (by kernel_rfl) ?_;refine TQ (A8 ((j:Int)+1) (by omega)) ?_;have htl:=aZ0 ht (by omega);have hnx:=i1.next (t:=t) (by rw[hMl];exact ht);refine⟨⟨(ts++t,j+1,a6),hnx,by simp only[K0,Nat.one_mul];omega,by simp only;omega,by simp only[A3];omega⟩,?_,?_⟩
    ·
     have e1:M++t=T++⟨k,N,c,rq0⟩::(ts++t):=by rw[hM];simp
     have e2:(M++t).length=T.length+1+(ts++t).length:=by rw[e1];simp;omega
     simp only[];rw[←e1,←e2];exact fF
    show 10-(j+1)<10-j;omega
   have hjc:(j:Int)=c:=by simp at hb;omega
   have hj3:j≤3:=by omega
   have hja:j*aB (d-1)≤3*aB (d-1):=I8 _ hj3;obtain⟨d',rfl⟩: ∃d',d=d'+1:=⟨d-1,by omega⟩;simp only[U0]at i1 i2 hja;have hm:=i1.fin (x:=⟨k,N,c,rq0⟩) hT8 hnode hk1 hjc.symm (by omega) (by omega);refine bG (T3 ?_);clear hK K;refine AX (hK _ _ _ ?_);clear hK K;refine R0 ?_;refine aE (RT Tryz.results41 ?_);exact aZ1 (t:=⟨k,N,c,rq0⟩::ts) rfl rfl (by simp;omega) rfl hm (by simp only[aB];omega)
  have hx3:=h4 (by omega);have hy3:=g4 (by omega);obtain⟨k,hk⟩: ∃k,k=IntKind.i64.wrap (2+x):=⟨_,rfl⟩;obtain⟨c,hc⟩: ∃c,c=IntKind.i64.wrap (1+y):=⟨_,rfl⟩;have hkx:k=2+x:=by rw[hk,hw2 x h2 (by omega)]
  have hcy:c=1+y:=by rw[hc,hw1 y g2 (by omega)]
  rw[←hk,←hc];clear hk hc h3 h4 g3 g4;refine R0 ?_;refine aF (b:=_) rfl (fun hb=>?_) (fun hb=>?_)
  ·
   refine Rg ?_;refine AU ?_;refine HS rfl rfl fun K' hK'=>T5 ?_;refine cC (args:=[_]) (eZ L a3 c (by omega) (by omega)) rfl (by simp) ⟨rfl,rfl,rfl,rfl⟩ ?_;rintro u v' ⟨z,a4,rfl,rfl,f1,f2,f3,f4⟩;refine AX (hK' _ _ ?_);clear hK' K';refine AU ?_;refine T4 ?_;have f5:=f4 (by omega);have hk4:k=4:=by simpa using hb
   exact key2 k c (IntKind.i64.wrap (1+z)) a4 _ _ _ ⟨by omega,by omega⟩ (by omega) (by rw[hw1 z f2 (by omega),cB,A7 (by simp only;omega),A7 (by simp only;omega),B6 hk4];simp[inB,gA];omega) (by omega) (fG (by simp[Nd.cv,rq0]))
  refine aJ (T3 ?_);have hk4: ¬k=4:=by simpa using hb
  exact key2 k c 0 a3 _ _ _ ⟨by omega,by omega⟩ (by omega) (by rw[cB,A7 (by simp only;omega),B6 (by simp only;omega)];simp[inB,gA];omega) (by omega) (fG (by simp[Nd.cv,rq0]))
 refine Rg ?_;refine AU ?_;refine aG 10 rfl (fun h1_10=>?_) (fun h1_10=>?_)
 · have F:=h1_10;refine AU ?_;refine T4 ?_;exact key true a _ _ _ (fun h=>by cases h) (by omega) (fF)
 have F:=h1_10;refine SF ?_;refine aW (g:=some (11,false)) rfl rfl fun K' hK'=>T6 ?_;refine cC (args:=[_]) (eZ L a 3 (by omega) (by omega)) rfl (by simp) ⟨rfl,rfl,rfl,rfl⟩ ?_;rintro u v' ⟨x,a1,rfl,rfl,h1,h2,h3,h4⟩;refine AX (hK' _ _ ?_);clear hK' K';refine AU ?_;refine aG 14 rfl (fun h1_14=>?_) (fun h1_14=>?_)
 · have F:=aI h1_10 h1_14;refine AU ?_;refine T4 ?_;exact key true a1 _ _ _ (fun h=>by cases h) h1 (fF)
 have F:=aI h1_10 h1_14;refine AU ?_;refine aG 19 rfl (fun h1_19=>?_) (fun h1_19=>?_)
 · simp only[h1_19];refine T4 ?_;exact key true a1 _ _ _ (fun h=>by cases h) h1 (fF)
 simp only[h1_19];refine T4 ?_;exact key false a1 _ _ _ (fun _=>⟨by simp at h1_10;omega,by simp at h1_19;omega⟩) h1 (fF)
theorem bT9 (N n:Nat)(ob:Ob)(e:TypeId)(sz:Nat)(v:CV)(L:List CV)(t:TypeId):jG (sub [0,N] n) ob 0 [.box t (.c v),.row e sz L]=upd (upd ob 0 (some (.box t (.c v)))) N (some (.row e sz L)):=rfl
theorem cG4 (N n m:Nat):HV.ren (sub [0,N] n) (.own 1 m)= .own N m:=rfl
theorem cQ5 (L:List Int)(a:Nat):lst [.box 59 (.c (tp L a))]=fob [(0,.box 59 (.c (tp L a)))]:=by
 funext i
 match i with
 |0=>rfl
 |i+1=>simp[lst,fob,upd]
abbrev MkR (L:List Int)(a d:Nat)(r:HV)(os':List HO):Prop:=
 ∃(t:List Nd) (a':Nat),r= .own 1 t.length∧os'=[.box 59 (.c (tp L a')),.row 56 7 (t.map Nd.cv)]∧Made d 0 t∧a'≤a+aB d
theorem vM {a m a':Nat}{t:List Nd}(N:Nat)(hN:1≤N)(h0:ob 0=some (.box 59 (.c (tp L a'))))(h1:ob N=some (.row 56 7 X))(hm:m=t.length)(hX:X=t.map Nd.cv)(hM:Made d 0 t)(ha:a'≤a+aB d):
  lC 1 (.own N m) ob (fun r ob'=> ∃os',ob'=lst os'∧(1≤os'.length∧os'.length≤1+4)∧ ∃(t:List Nd) (a':Nat),r= .own 1 t.length∧os'=[.box 59 (.c (tp L a')),.row 56 7 (t.map Nd.cv)]∧Made d 0 t∧a'≤a+aB d):=by
 subst hm hX;have e1:tau 1 [N] 1=N:=rfl;exact dS [] [N] (.own 1 t.length) [.box 59 (.c (tp L a')),.row 56 7 (t.map Nd.cv)] (by simp[e1]) (by simp) ⟨⟨by simp,by simp,_,h0,by simp[fC,tp,denilL_int]⟩,⟨by simp,by simp,_,h1,rfl⟩,trivial⟩ rfl (by simp) (by simpa using hN) (by simp) ⟨t,a',rfl,rfl,hM,ha⟩
theorem cO2 (d:Nat)(L:List Int)(a:Nat)(hd:d≤3)(ha:a+aB d<2^38):
  HGe Tryz.prog 41 [.ptr 0 0,.c .nils,.c (.int .i64 d)] [.box 59 (.c (tp L a))] (MkR L a d):=by
 refine cA (args:=[.ptr 0 0,.c .nils,.c (.int .i64 d)]) Tryz.func41 rfl (by kernel_rfl) (eM rfl (by simp[dO]) (by simp)) (C4 rfl) ?_;show Hw _ _ 1 _ _ _ (lst _) 1;rw[cQ5];have hab:=aY9 d hd;have hw1: ∀x:Int,0≤x→x<100→IntKind.i64.wrap (1+x)=1+x:=fun x h1 h2=>A8 _ (by omega);have hw2: ∀x:Int,0≤x→x<100→IntKind.i64.wrap (2+x)=2+x:=fun x h1 h2=>A8 _ (by omega);refine R0 ?_;refine aC fun K hK=>?_;refine aC fun K hK=>?_;have key: ∀(b:Bool) (a1:Nat) fr ob nx,(b=false→0<d)→a1≤a+1→Fits 1 fr ob (fin [(0,.ptr 0 0),(1,.c .nils),(2,.c (.int .i64 d)),(20,.c (.bool b))]) (fob [(0,.box 59 (.c (tp L a1)))]) 200→K fr ob nx:=by
  rintro b a1 fr ob nx hbf ha1 hf;refine hK _ _ _ (bB hf ?_);clear hf hK K;refine aF (b:=b) rfl (fun hb=>?_) (fun hb=>?_)
  · clear hbf;refine aC fun K hK=>Rg ?_;refine AU ?_;refine HS rfl rfl fun K' hK'=>T5 ?_;refine cC (args:=[]) (bK1 L a1 (by omega)) rfl (by simp) ⟨rfl,rfl,rfl,rfl⟩ ?_;rintro u v' ⟨q,a2,rfl,rfl,s1,s2⟩;refine AX (hK' _ _ ?_);clear hK' K';refine AU ?_;refine T2 (hK _ _ _ ?_);clear hK K;refine aE (RT Tryz.results41 ?_);have:=cQ4 d hd;exact vM 220 (by decide) (t:=[⟨1,0,0,q⟩]) rfl rfl (by simp) (by simp) (aG3 s2) (by omega)
  have hd0:=hbf hb;clear hbf hb;refine aJ ?_;refine T0 (hK _ _ _ ?_);clear hK K;refine aC fun K hK=>Rg ?_;refine S0 ?_;refine HS rfl rfl fun K' hK'=>T5 ?_;refine cC (args:=[_]) (eZ L a1 3 (by omega) (by omega)) rfl (by simp) ⟨rfl,rfl,rfl,rfl⟩ ?_;rintro u v' ⟨x,a2,rfl,rfl,h1,h2,h3,h4⟩;refine AX (hK' _ _ ?_);clear hK' K';refine AU ?_;refine HS rfl rfl fun K' hK'=>T5 ?_;refine cC (args:=[_]) (eZ L a2 3 (by omega) (by omega)) rfl (by simp) ⟨rfl,rfl,rfl,rfl⟩ ?_;rintro u v' ⟨y,a3,rfl,rfl,g1,g2,g3,g4⟩;refine AX (hK' _ _ ?_);clear hK' K';refine AU ?_;refine T2 (hK _ _ _ ?_);clear hK K;refine aC fun K hK=>?_;have key2: ∀(k c N:Int) (a4:Nat) fr ob nx,(1≤c∧c≤3)→k≠1→cB ⟨k,N,c,rq0⟩=true→a4≤a+4→Fits 1 fr ob (fin [(0,.ptr 0 0),(1,.c .nils),(2,.c (.int .i64 d)),(7,.ptr 228 0)]) (fob [(0,.box 59 (.c (tp L a4))),(228,.box 56 (.c (Nd.cv ⟨k,N,c,rq0⟩)))]) 700→K fr ob nx:=by
   rintro k c N a4 fr ob nx ⟨hc1,hc3⟩ hk1 hnode ha4 hf;refine hK _ _ _ (bB hf ?_);clear hf hK K;refine RS ?_;iterate 5 refine S0 ?_
   refine RE ?_;refine aC fun K hK=>?_;refine R0 ?_;refine aM ?_;refine bN (α:={w:List Nd×Nat×Nat//MadeK (d-1) 0 w.2.1 w.1∧w.2.2≤a+4+w.2.1*aB (d-1)∧(w.2.1:Int)≤c∧w.1.length≤60*w.2.1}) (fun w=>(fin [(0,.ptr 0 0),(1,.own 712 (1+w.1.1.length)),(2,.c (.int .i64 d)),(7,.ptr 228 0),(8,.c (.int .i64 w.1.2.1))],fob [(0,.box 59 (.c (tp L w.1.2.2))),(712,.row 56 7 ((⟨k,N,c,rq0⟩::w.1.1:List Nd).map Nd.cv)),(228,.box 56 (.c (Nd.cv ⟨k,N,c,rq0⟩)))])) 2000 (fun w=>10-w.1.2.1) ⟨([],0,a4),MadeK.zero _ _,by simp only;omega,by simp only;omega,by simp⟩ (fF) ?_;rintro⟨⟨ts,j,a5⟩,i1,i2,i3,i4⟩;simp only at i1 i2 i3 i4;refine aC fun K hK=>?_;refine AU ?_;refine aF (b:=decide ((j:Int)<c)) rfl (fun hb=>?_) (fun hb=>?_)
   ·
    have hjc:(j:Int)<c:=by simpa using hb
    clear hb;obtain⟨M,hM⟩: ∃M:List Nd,M=⟨k,N,c,rq0⟩::ts:=⟨_,rfl⟩;have hMl:1+ts.length=M.length:=by rw[hM];simp;omega
    have hMm:Nd.cv ⟨k,N,c,rq0⟩::List.map Nd.cv ts=List.map Nd.cv M:=by rw[hM];rfl
    rw[hMm,hMl];have hwd:IntKind.i64.wrap ((d:Int)-1)=((d-1:Nat):Int):=by rw[A8 _ (by omega)];omega
    have hab1:=aY9 (d-1) (by omega);have hj3:j≤2:=by omega
    have hja:j*aB (d-1)≤2*aB (d-1):=I8 _ hj3;have hdd:aB d=8+3*aB (d-1):=by
     obtain⟨e,rfl⟩: ∃e,d=e+1:=⟨d-1,by omega⟩;rfl
    refine aJ ?_;refine T0 (hK _ _ _ ?_);clear hK K;refine aC fun K hK=>?_;refine aM ?_;refine Rg ?_;have F:=hwd;refine AU ?_;refine HS rfl rfl fun K' hK'=>T6 ?_;refine eG [0,712] (cV2 (d-1) L a5 M (by omega) (by omega) (by omega) (by omega)) rfl ⟨rfl,rfl,trivial⟩ (by simp) (by simp) ⟨rfl,rfl,rfl,rfl⟩ (by simp[dO]) (by simp) ?_;rintro r os' ⟨t,a6,rfl,rfl,ht,ha6⟩;rw[bT9,cG4];refine AX (hK' _ _ ?_);clear hK' K';refine SF ?_;refine T2 (hK _ _ _ ?_);clear hK K;refine aL (by kernel_rfl) ?_;refine TQ (A8 ((j:Int)+1) (by omega)) ?_;have htl:=aZ0 ht (by omega);have hnx:=i1.next (t:=t) (by rw[F3,hMl];exact ht);refine⟨⟨(ts++t,j+1,a6),hnx,by simp only[K0,Nat.one_mul];omega,by simp only;omega,by simp only[A3];omega⟩,?_,?_⟩
    ·
     have e1:Nd.cv ⟨k,N,c,rq0⟩::List.map Nd.cv (ts++t)=List.map Nd.cv (M++t):=by rw[hM];simp
     have e2:(M++t).length=1+(ts++t).length:=by rw[hM];simp;omega
     simp only[];rw[e1,←e2];exact fF
    show 10-(j+1)<10-j;omega
   have hjc:(j:Int)=c:=by simp at hb;omega
   have hj3:j≤3:=by omega
   have hja:j*aB (d-1)≤3*aB (d-1):=I8 _ hj3;obtain⟨d',rfl⟩: ∃d',d=d'+1:=⟨d-1,by omega⟩;simp only[U0]at i1 i2 hja;have hm:=i1.fin (x:=⟨k,N,c,rq0⟩) (by omega) hnode hk1 hjc.symm (by omega) (by omega);refine bG (T3 ?_);clear hK K;refine AX (hK _ _ _ ?_);clear hK K;refine R0 ?_;refine aE (RT Tryz.results41 ?_);exact vM 712 (by decide) (t:=⟨k,N,c,rq0⟩::ts) rfl rfl (by simp;omega) rfl hm (by simp only[aB];omega)
  have hx3:=h4 (by omega);have hy3:=g4 (by omega);obtain⟨k,hk⟩: ∃k,k=IntKind.i64.wrap (2+x):=⟨_,rfl⟩;obtain⟨c,hc⟩: ∃c,c=IntKind.i64.wrap (1+y):=⟨_,rfl⟩;have hkx:k=2+x:=by rw[hk,hw2 x h2 (by omega)]
  have hcy:c=1+y:=by rw[hc,hw1 y g2 (by omega)]
  rw[←hk,←hc];clear hk hc h3 h4 g3 g4;refine R0 ?_;refine aF (b:=_) rfl (fun hb=>?_) (fun hb=>?_)
  ·
   refine Rg ?_;refine AU ?_;refine HS rfl rfl fun K' hK'=>T5 ?_;refine cC (args:=[_]) (eZ L a3 c (by omega) (by omega)) rfl (by simp) ⟨rfl,rfl,rfl,rfl⟩ ?_;rintro u v' ⟨z,a4,rfl,rfl,f1,f2,f3,f4⟩;refine AX (hK' _ _ ?_);clear hK' K';refine AU ?_;refine T4 ?_;have f5:=f4 (by omega);have hk4:k=4:=by simpa using hb
   exact key2 k c (IntKind.i64.wrap (1+z)) a4 _ _ _ ⟨by omega,by omega⟩ (by omega) (by rw[hw1 z f2 (by omega),cB,A7 (by simp only;omega),A7 (by simp only;omega),B6 hk4];simp[inB,gA];omega) (by omega) (fG (by simp[Nd.cv,rq0]))
  refine aJ (T3 ?_);have hk4: ¬k=4:=by simpa using hb
  exact key2 k c 0 a3 _ _ _ ⟨by omega,by omega⟩ (by omega) (by rw[cB,A7 (by simp only;omega),B6 (by simp only;omega)];simp[inB,gA];omega) (by omega) (fG (by simp[Nd.cv,rq0]))
 refine Rg ?_;refine AU ?_;refine aG 10 rfl (fun h1_10=>?_) (fun h1_10=>?_)
 · have F:=h1_10;refine AU ?_;refine T4 ?_;exact key true a _ _ _ (fun h=>by cases h) (by omega) (fF)
 have F:=h1_10;refine SF ?_;refine aW (g:=some (11,false)) rfl rfl fun K' hK'=>T6 ?_;refine cC (args:=[_]) (eZ L a 3 (by omega) (by omega)) rfl (by simp) ⟨rfl,rfl,rfl,rfl⟩ ?_;rintro u v' ⟨x,a1,rfl,rfl,h1,h2,h3,h4⟩;refine AX (hK' _ _ ?_);clear hK' K';refine AU ?_;refine aG 14 rfl (fun h1_14=>?_) (fun h1_14=>?_)
 · have F:=aI h1_10 h1_14;refine AU ?_;refine T4 ?_;exact key true a1 _ _ _ (fun h=>by cases h) h1 (fF)
 have F:=aI h1_10 h1_14;refine SF ?_;refine aW (g:=some (16,false)) rfl rfl fun K' hK'=>T6 ?_;obtain⟨z,hz⟩: ∃z:Int,z=0:=⟨_,rfl⟩;rw[←hz];refine AX (hK' _ _ ?_);clear hK' K';refine AU ?_;refine aG 19 rfl (fun h1_19=>?_) (fun h1_19=>?_)
 · simp only[h1_19];refine T4 ?_;exact key true a1 _ _ _ (fun h=>by cases h) h1 (fF)
 simp only[h1_19];refine T4 ?_;exact key false a1 _ _ _ (fun _=>(by simp at h1_10;omega)) h1 (fF)
theorem bL7 (n:Nat)(ob:Ob)(e:TypeId)(sz:Nat)(v:CV)(L:List CV)(t:TypeId):jG (sub [0] n) ob 0 [.box t (.c v),.row e sz L]=upd (upd ob 0 (some (.box t (.c v)))) n (some (.row e sz L)):=rfl
theorem cG5 (n m:Nat):HV.ren (sub [0] n) (.own 1 m)= .own n m:=rfl
theorem cG6 (L:List Int)(a:Nat)(ha:a+aB 3<2^38):HGe Tryz.prog 19 [.ptr 0 0] [.box 59 (.c (tp L a))] (MkR L a 3):=by
 refine cA (args:=[.ptr 0 0]) Tryz.func19 rfl (by kernel_rfl) (eM rfl (by simp[dO]) (by simp)) (C4 rfl) ?_;show Hw _ _ 1 _ _ _ (lst _) 1;rw[cQ5];refine R0 ?_;refine aC fun K hK=>aZ (by kernel_rfl) ?_;simp only[sR,simprocAttr];refine SG0 ?_;refine wD (g:=none) rfl rfl fun K' hK'=>?_;simp only[sN,↓hopH.eq_def,sH,↓sP,sA,tyS,simprocAttr];refine eG [0] (cO2 3 L a (by decide) ha) rfl ⟨rfl,trivial⟩ (by simp) (by simp) ⟨rfl,rfl,rfl,rfl⟩ (by simp[dO]) (by simp) ?_;rintro r os' ⟨t,a',rfl,rfl,ht,ha'⟩;rw[bL7,cG5];refine AX (hK' _ _ ?_);clear hK' K';refine SG0 ?_;refine T2 (hK _ _ _ ?_);clear hK K;refine aE (RT Tryz.results19 ?_);exact vM 9 (by decide) (t:=t) rfl rfl rfl rfl ht ha'
end Go.Proofs.YtlgckianjabghaaGreatDoor
namespace Go.Pl
open Go Go.Hl
variable {t:List Nd}
theorem cO3 (h:Made 3 0 t):t.length≤40:=by
 have key: ∀p∈pos 3 0,p.1≤40:=by decide+kernel
 exact key _ h.pos
def rN (n:Nat):aH:=[114,UInt8.ofNat (48+n)]
def dfT :List Nd:=[⟨1,0,0,⟨1,1,0,[]⟩⟩]
def pkA :List aH:=[[112,114,111,100],[116,101,115,116],[42],[42,42]]
def pkB :List aH:=[[119,101,98],[42],[42,42]]
structure MadeR (r:Pr):Prop where
 ok:jW r=true
 b:r.b.length≤80
 c:r.c.length≤80
 t:r.t.length≤40
variable {n:Nat}
theorem cG7 {b c:aH}{g:Int}(hn:n=1∨n=2)(hb:b∈pkA)(hc:c∈pkB)(hg:0≤g∧g<20)(ht:t=dfT∨Made 3 0 t):MadeR ⟨rN n,b,c,g,t⟩:=by
 have k1: ∀b∈pkA,(fN b).isSome=true∧b.length≤80:=by decide+kernel
 have k2: ∀b∈pkB,(fN b).isSome=true∧b.length≤80:=by decide+kernel
 have k3:dX (rN n)=true:=by rcases hn with rfl|rfl<;>decide+kernel
 have k4:inB g 0 uP=true:=by rw[gO,jQ];omega
 have k5:eB t=true∧t.length≤40:=by
  rcases ht with rfl|ht
  · exact⟨by decide,by decide⟩
  · grind[aV8,cL2,cO3]
 exact⟨by grind[jW,Bool.and_self],(k1 b hb).2,(k2 c hc).2,k5.2⟩
structure MadeRs (n:Nat)(rs:List Pr):Prop where
 two:n+rs.length≤2
 one:1≤n+rs.length
 ok: ∀r∈rs,MadeR r
 nm: ∀r∈rs,∃j,n<j∧j≤2∧r.a=rN j
 ap:iS rs=true
theorem MadeRs.zero (h1:1≤n)(h2:n≤2):MadeRs n []:=⟨by grind,by grind,by simp,by simp,rfl⟩
variable {rs:List Pr}
theorem MadeRs.next (h:MadeRs (n+1) rs){r:Pr}(hr:MadeR r)(ha:r.a=rN (n+1)):MadeRs n (rs++[r]):=by
 have h1:=h.two;refine⟨by grind,by grind,fun x hx=>?_,fun x hx=>?_,?_⟩
 ·
  rcases F4.1 hx with hx|hx
  · exact h.ok x hx
  grind
 ·
  rcases F4.1 hx with hx|hx
  · obtain⟨j,h2,h3,h4⟩:=h.nm x hx;grind
  grind
 ·
  rw[pC,h.ap,B1,J8,←Bool.not_eq_true,AD];intro hm;obtain⟨x,hx,he⟩:=L3.1 hm;obtain⟨j,h2,h3,h4⟩:=h.nm x hx;rw[h4,ha]at he;have hj:j=2:=by omega
  have hn:n=0:=by omega
  subst hj hn
  revert he
  decide
theorem MadeRs.fin (h:MadeRs 0 rs){v:Int}(h1:1≤v)(h2:v≤1099511627776):pF ⟨[112],v,rs⟩:=by
 have h3:=h.two;have k:dX [112]=true:=by decide
 refine⟨?_,by grind,fun r hr=>⟨(h.ok r hr).b,(h.ok r hr).c,(h.ok r hr).t⟩⟩;have k1:inB v 1 uP=true:=by rw[gO,jQ];exact⟨h1,h2⟩
 have k2:decide (rs.length≤16)=true:=by simp;omega
 have k3:rs.all jW=true:=H6.2 fun r hr=>(h.ok r hr).ok;simp only[fA,k,k1,k2,k3,h.ap,E3]
theorem cG8 {q:Rq}(h:eA q=true):q.t.length≤64:=by
 have hn:dX q.t=true→q.t.length≤64:=fun h=>(mZ h).2;have h0:q.t=[]→q.t.length≤64:=fun h=>by grind
 unfold eA at h;grind
theorem bU0 {n:Nd}(h:cB n=true):n.q.t.length≤64:=by
 have h0:n.q=rq0→n.q.t.length≤64:=fun h=>by rw[h];decide
 have h1:eA n.q=true→n.q.t.length≤64:=cG8;unfold cB at h
 repeat' split at h
 all_goals simp_all[A6,sV,G9]
theorem bU1 (h:IsTree t): ∀n∈t,n.q.t.length<2^63:=fun n hn=>by have:=bU0 (h.node n hn);omega
variable {p:Po}
theorem bL8 (h:fA p=true):PoSz p:=by
 obtain⟨_,h2,h3,h4⟩:=qL h;refine⟨by grind[mZ],by omega,fun r hr=>?_,fun r hr=>bU1 (jC (h4 r hr)).2.1⟩;have:=(mZ (jC (h4 r hr)).2.2.1).2;omega
theorem MadeRs.sz (h:MadeRs 0 rs)(v:Int):PoSz ⟨[112],v,rs⟩:=by
 have:=bL8 (h.fin (v:=1) (by omega) (by omega)).1;exact⟨this.n,this.r,this.a,this.t⟩
theorem cO4 {ls:List (List aH)}(h: ∀l∈ls,fT l)(hl:ls.length≤170):gL ls=0∧(lK ls).length≤255000∧dZ (lK ls)=0∧decO (lK ls)=ls:=by
 have h0:=zK h hl;obtain⟨h1,h2⟩:=bJ0 h0;refine⟨h0,?_,h1,h2⟩;rw[qD h0];have:=rR fun l hx=>(h l hx).2;omega
theorem cO5 (h:pF p):qU p=0∧(mI p).length≤255000∧dZ (mI p)=0∧decO (mI p)=jM p:=by
 obtain⟨h1,h2⟩:=aM7 h;have:=cO4 h1 h2;refine⟨bR0 h,?_⟩;rw[mI,B6 h.1];grind
end Go.Pl
namespace Go.Proofs.YtlgckianjabghaaGreatDoor
open Go Go.Hl Go.Pl
theorem cO6 {n:Nat}(h:n≤2):IntKind.i64.wrap (48+(n:Int))=((48+n:Nat):Int)∧IntKind.u8.wrap (((48+n:Nat):Int))=((UInt8.ofNat (48+n)).toNat:Int):=by
 match n,h with
 |0,_=>decide
 |1,_=>decide
 |2,_=>decide
theorem bF5 (L:List Int)(a:Nat)(v:Int)(ha:a<2^37):bB1 Tryz.prog 5 59 (tp L a) [.int .i64 v] (fun u v'=> ∃(rs:List Pr) (a':Nat),u=(Po.mk [112] v rs).cv∧v'=tp L a'∧MadeRs 0 rs∧a'≤a+1000):=by
 refine cA Tryz.func5 rfl (by kernel_rfl) (dV _ _ _) (C4 rfl) ?_;have hab:=aY9 3 (by decide);refine R0 ?_;refine RS ?_;iterate 4 refine S0 ?_
 refine RE ?_;refine aC fun K hK=>?_;refine aC fun K hK=>Rg ?_;refine S0 ?_;refine HS rfl rfl fun K' hK'=>T5 ?_;refine cC (args:=[_]) (eZ L a 2 (by omega) (by omega)) rfl (by simp) ⟨rfl,rfl,rfl,rfl⟩ ?_;rintro u v' ⟨x,a1,rfl,rfl,h1,h2,h3,h4⟩;refine AX (hK' _ _ ?_);clear hK' K';refine AU ?_;refine T2 (hK _ _ _ ?_);clear hK K;refine aM ?_;have hx2:=h4 (by omega);obtain⟨m,hm⟩: ∃m:Nat,IntKind.i64.wrap (1+x)=m∧1≤m∧m≤2:=⟨(1+x).toNat,by rw[A8 _ (by omega)];omega,by omega,by omega⟩;obtain⟨hm,hm1,hm2⟩:=hm;rw[hm];clear hm h3 h4;refine pY 13 2 48 5 rfl rfl rfl rfl ?_;refine cM [] ?_;refine bN (α:={w:List Pr×Nat×Nat//MadeRs w.2.1 w.1∧w.2.2+460*w.2.1≤a+921}) (fun w=>(fin [(0,.ptr 0 0),(4,.ptr 1 0),(5,.ptr 13 0),(6,.c (.int .i64 w.1.2.1))],fob [(0,.box 59 (.c (tp L w.1.2.2))),(1,.box 29 (.c (.agg [.str [],.int .i64 0,.slc []]))),(13,.box 29 (.agg [.c (.str [112]),.c (.int .i64 v),.own 37 w.1.1.length])),(37,.row 48 5 (w.1.1.map Pr.cv))])) 20000 (fun w=>w.1.2.1) ⟨([],m,a1),MadeRs.zero hm1 hm2,by simp only;omega⟩ (aP (by omega) (by simp) (by simp[tp,denilL_int])) ?_;rintro⟨⟨rs,n,a2⟩,hrs,ha2⟩;simp only at hrs ha2;refine aC fun K hK=>?_;refine R0 ?_;refine aF (b:=decide ((0:Int)<n)) rfl (fun hb=>?_) (fun hb=>?_)
 ·
  have hn0:0<n:=by simp at hb;omega
  clear hb;have hn2:n≤2:=by have:=hrs.two;omega
  obtain⟨hw1,hw2⟩:=cO6 hn2;refine aJ ?_;refine T0 (hK _ _ _ ?_);clear hK K;refine aC fun K hK=>?_;refine aM ?_;refine aC fun K hK=>cP mixed [(0,[],[]),(1,[],[]),(2,[],[]),(3,[],[]),(4,[],[]),(5,[],[]),(6,[3],[]),(7,[3],[]),(9,[3,7],[]),(10,[3,7],[]),(12,[3,7,10],[]),(14,[3,7,10],[]),(15,[3,7,10],[]),(16,[3,7,10],[]),(18,[3,7,10,16],[]),(8,[3,10,16,18],[0,1,2,3,4,5,9,10,12,14,15,16,18]),(11,[3,16,18],[0,1,2,3,4,5,12,14,15,16,18]),(13,[3,16,18],[0,1,2,3,4,5,14,15,16,18]),(17,[18],[]),(19,[],[])] [0,1,3,7,15,31,0,0,192,0,0,1984,0,8128,0,16384,49152,131071,0,524287] (by kernel_rfl) (by kernel_rfl) (by kernel_rfl) (by kernel_rfl) rfl (by kernel_rfl) ?_;have F:=aI hw1 (aI hw2 @eK);iterate 3 refine WGF ?_
  refine eS (g:=none) 20020 rfl rfl fun K' hK'=>?_;simp only[fI,iM,sH,↓sP,sA,tyS,simprocAttr,hw1,hw2,eK];repeat refine AI ?_
  refine cK (by first|rfl|simp) ?_;try simp only[sH,↓sP,sA,tyS,simprocAttr,hw1,hw2,eK]
  refine AX (hK' _ _ ?_);clear hK' K';iterate 3 refine WGF ?_
  refine eS (g:=none) 20036 rfl rfl fun K' hK'=>?_;simp only[fI,iM,sH,↓sP,sA,tyS,simprocAttr,hw1,hw2,eK];repeat refine AI ?_
  refine cK (by first|rfl|simp) ?_;try simp only[sH,↓sP,sA,tyS,simprocAttr,hw1,hw2,eK]
  refine AX (hK' _ _ ?_);clear hK' K';refine WGF ?_;refine eS (g:=none) 20048 rfl rfl fun K' hK'=>?_;simp only[fI,iM,sH,↓sP,sA,tyS,simprocAttr,hw1,hw2,eK];repeat refine AI ?_
  refine cK (by first|rfl|simp) ?_;try simp only[sH,↓sP,sA,tyS,simprocAttr,hw1,hw2,eK]
  refine AX (hK' _ _ ?_);clear hK' K';iterate 3 refine WGF ?_
  refine eS (g:=none) 20072 rfl rfl fun K' hK'=>?_;simp only[fI,iM,sH,↓sP,sA,tyS,simprocAttr,hw1,hw2,eK];repeat refine AI ?_
  refine cK (by first|rfl|simp) ?_;try simp only[sH,↓sP,sA,tyS,simprocAttr,hw1,hw2,eK]
  refine AX (hK' _ _ ?_);clear hK' K';refine WGF ?_;refine bR (g:=none) rfl rfl fun K' hK'=>T6 ?_;refine cC (args:=[_]) (aN2 L a2 pkA (by omega) (by decide)) rfl (by simp) ⟨rfl,rfl,rfl,rfl⟩ ?_;rintro u v' ⟨b,a3,rfl,hb,rfl,hb3⟩;refine AX (hK' _ _ ?_);clear hK' K';refine bR (g:=none) rfl rfl fun K' hK'=>T6 ?_;refine cC (args:=[_]) (aN2 L a3 pkB (by omega) (by decide)) rfl (by simp) ⟨rfl,rfl,rfl,rfl⟩ ?_;rintro u v' ⟨c,a4,rfl,hc,rfl,hb4⟩;refine AX (hK' _ _ ?_);clear hK' K';refine bR (g:=none) rfl rfl fun K' hK'=>T6 ?_;refine cC (args:=[_]) (eZ L a4 20 (by omega) (by omega)) rfl (by simp) ⟨rfl,rfl,rfl,rfl⟩ ?_;rintro u v' ⟨g,a5,rfl,rfl,g1,g2,g3,g4⟩;have g5:=g4 (by omega);have hrl:rs.length≤2:=by have:=hrs.two;omega
  refine AX (hK' _ _ ?_);clear hK' K';iterate 2 refine WGF ?_
  refine T2 (hK _ _ _ ?_);clear hK K;refine aC fun K hK=>?_;have key: ∀(cl:List Nat) (T:List Nd) (a7:Nat) fr ob nx,(T=dfT∨Made 3 0 T)→a7≤a2+404→Fits 1 (clF ob cl fr) (clO ob cl) (fin [(0,.ptr 0 0),(4,.ptr 1 0),(5,.ptr 13 0),(6,.c (.int .i64 n)),(7,.ptr 20080 0)]) (fob [(0,.box 59 (.c (tp L a7))),(1,.box 29 (.c (.agg [.str [],.int .i64 0,.slc []]))),(13,.box 29 (.agg [.c (.str [112]),.c (.int .i64 v),.own 37 rs.length])),(37,.row 48 5 (rs.map Pr.cv)),(20080,.box 48 (.c (Pr.cv ⟨rN n,b,c,g,T⟩)))]) 30000→K fr ob nx:=by
   rintro cl T a7 fr ob nx hT ha7 hf;refine hK _ _ _ (cM cl (bB hf ?_));clear hf hK K;obtain⟨R,hR⟩: ∃R:Pr,R=⟨rN n,b,c,g,T⟩:=⟨_,rfl⟩;have hRm:MadeR R:=by rw[hR];exact cG7 (by omega) hb hc ⟨g2,g5⟩ hT
   rw[←hR];refine Rg ?_;have F:=@Pr.cells;refine AU ?_;refine T2 (hK _ _ _ ?_);clear hK K;refine aL (by kernel_rfl) ?_;refine TQ (show IntKind.i64.wrap ((n:Int)-1)=((n-1:Nat):Int)from by rw[A8 _ (by omega)];omega) ?_;have hnx:MadeRs (n-1) (rs++[R]):=MadeRs.next (n:=n-1) (by rw[BF hn0];exact hrs) hRm (by rw[hR,BF hn0]);refine⟨⟨(rs++[R],n-1,a7),hnx,by simp only;omega⟩,fF,?_⟩;show n-1<n;omega
  refine aC fun K hK=>Rg ?_;refine S0 ?_;refine HS rfl rfl fun K' hK'=>T5 ?_;refine cC (args:=[_]) (eZ L a5 2 (by omega) (by omega)) rfl (by simp) ⟨rfl,rfl,rfl,rfl⟩ ?_;rintro u v' ⟨y,a6,rfl,rfl,y1,y2,y3,y4⟩;refine AX (hK' _ _ ?_);clear hK' K';refine S0 ?_;refine T2 (hK _ _ _ ?_);clear hK K;refine aF (b:=_) rfl (fun hb=>?_) (fun hb=>?_)
  · refine Rg ?_;refine S0 ?_;refine HS rfl rfl fun K' hK'=>T5 ?_;refine eG [0] (cG6 L a6 (by omega)) rfl ⟨rfl,trivial⟩ (by simp) (by simp) ⟨rfl,rfl,rfl,rfl⟩ (by simp[dO]) (by simp) ?_;rintro r os' ⟨T,a7,rfl,rfl,hT,ha7⟩;rw[bL7,cG5];refine AX (hK' _ _ ?_);clear hK' K';refine AU ?_;refine T4 ?_;exact key [20104] T a7 _ _ _ (.inr hT) (by omega) (aP (by omega) (by simp[denilL_Nd]) (by simp[denilL_Nd,Pr.cv,Po.cv,tp,denilL_int,rN]))
  refine aJ (T3 ?_);exact key [] dfT a6 _ _ _ (.inl rfl) (by omega) (aP (by omega) (by simp[denilL_Nd]) (by simp[denilL_Nd,Pr.cv,Po.cv,tp,denilL_int,rN,dfT,Nd.cv,Rq.cv]))
 refine bG (T3 ?_);clear hK K;refine AX (hK _ _ _ ?_);clear hK K;refine R0 ?_;refine aE (RT Tryz.results5 ?_);have hn:n=0:=by simp at hb;omega
 subst hn;refine⟨rfl,?_⟩;exact gK [37] (Po.mk [112] v rs).cv (tp L a2) (by simp[Po.cv,denilL_Pr]) rfl (by simp[tp,denilL_int]) (by simp) ⟨rs,a2,rfl,rfl,hrs,by omega⟩
theorem cO7 (q:Rq)(hn:cN6 q.n)(hm:cN6 q.m):cG Tryz.prog 40 [q.cv] (fun v=>v=lsC (wlR q)):=by
 refine FW Tryz.func40 ?_;refine R0 ?_;refine aC fun K hK=>DW [(0,[],[]),(1,[],[]),(3,[],[]),(4,[],[]),(2,[],[3,4]),(5,[],[]),(6,[],[]),(7,[],[])] [0,1,3,0,8,31,63,127] ?_;iterate 4 refine W0 ?_
 refine cT (g:=none) rfl rfl fun K' hK'=>T5 ?_;refine C1 (uB q.n hn) ?_;rintro u rfl;refine AX (hK' _ _ ?_);clear hK' K';refine cT (g:=none) rfl rfl fun K' hK'=>T5 ?_;refine C1 (uB q.m hm) ?_;rintro u rfl;refine AX (hK' _ _ ?_);clear hK' K';iterate 2 refine W0 ?_
 refine T2 (hK _ _ _ ?_);clear hK K;refine aC fun K hK=>?_;refine R0 ?_;refine aM ?_;refine R0 ?_;refine aF (b:=(q.k==1)) rfl (fun hb=>?_) (fun hb=>?_)
 ·
  have hk:q.k=1:=by simpa using hb
  clear hb;refine R0 ?_;refine aE (RT Tryz.results40 ?_);exact aK [60] (lsC (wlR q)) (by rw[show wlR q=[bO,numW q.n]from by simp[wlR, *]];simp[lsC];rfl) rfl
 have hk1: ¬q.k=1:=by simpa using hb
 clear hb;refine R0 ?_;refine aF (b:=(q.k==2)) rfl (fun hb=>?_) (fun hb=>?_)
 ·
  have hk:q.k=2:=by simpa using hb
  clear hb;refine AU ?_;refine aE (RT Tryz.results40 ?_);exact aK [72] (lsC (wlR q)) (by rw[show wlR q=[bL,q.t]from by simp[wlR, *]];simp[lsC];rfl) rfl
 have hk2: ¬q.k=2:=by simpa using hb
 clear hb;refine R0 ?_;refine aF (b:=(q.k==3)) rfl (fun hb=>?_) (fun hb=>?_)
 ·
  have hk:q.k=3:=by simpa using hb
  clear hb;refine R0 ?_;refine aE (RT Tryz.results40 ?_);exact aK [76] (lsC (wlR q)) (by rw[show wlR q=[bQ,numW q.n]from by simp[wlR, *]];simp[lsC];rfl) rfl
 have hk3: ¬q.k=3:=by simpa using hb
 clear hb;refine R0 ?_;refine aF (b:=(q.k==4)) rfl (fun hb=>?_) (fun hb=>?_)
 ·
  have hk:q.k=4:=by simpa using hb
  clear hb;refine AU ?_;refine aE (RT Tryz.results40 ?_);exact aK [88] (lsC (wlR q)) (by rw[show wlR q=[bW,numW q.n,numW q.m]from by simp[wlR, *]];simp[lsC];rfl) rfl
 have hk4: ¬q.k=4:=by simpa using hb
 clear hb;refine R0 ?_;refine aF (b:=(q.k==5)) rfl (fun hb=>?_) (fun hb=>?_)
 ·
  have hk:q.k=5:=by simpa using hb
  clear hb;refine R0 ?_;refine aE (RT Tryz.results40 ?_);exact aK [92] (lsC (wlR q)) (by rw[show wlR q=[cF,numW q.n]from by simp[wlR, *]];simp[lsC];rfl) rfl
 have hk5: ¬q.k=5:=by simpa using hb
 clear hb;refine R0 ?_;refine aF (b:=(q.k==6)) rfl (fun hb=>?_) (fun hb=>?_)
 ·
  have hk:q.k=6:=by simpa using hb
  clear hb;refine R0 ?_;refine aE (RT Tryz.results40 ?_);exact aK [100] (lsC (wlR q)) (by rw[show wlR q=[cQ,numW q.n]from by simp[wlR, *]];simp[lsC];rfl) rfl
 have hk6: ¬q.k=6:=by simpa using hb
 clear hb;refine R0 ?_;refine aF (b:=(q.k==7)) rfl (fun hb=>?_) (fun hb=>?_)
 ·
  have hk:q.k=7:=by simpa using hb
  clear hb;refine R0 ?_;refine aE (RT Tryz.results40 ?_);exact aK [108] (lsC (wlR q)) (by rw[show wlR q=[cR,numW q.n]from by simp[wlR, *]];simp[lsC];rfl) rfl
 have hk7: ¬q.k=7:=by simpa using hb
 clear hb;refine aJ ?_;refine T0 (hK _ _ _ ?_);clear hK K;refine R0 ?_;refine aE (RT Tryz.results40 ?_);exact aK [104] (lsC (wlR q)) (by rw[show wlR q=[bX]from by simp[wlR, *]];simp[lsC];rfl) rfl
theorem aI5 (l:List (List aH)):(∀v∈l.map lsC,v.cells=1)=True:=eq_true fun v h=>by obtain⟨d,_,rfl⟩:=L3.1 h;exact dB d
theorem cG9 (l:List Nd)(ht:IsTree l)(m:Nat): ∀(i:Nat) (hi:i<l.length),l.length-i≤m→
  gB Tryz.prog 16 [.slc (l.map Nd.cv),.int .i64 i] (fun u v=>u= .slc ((fY l i).map lsC)∧v= .int .i64 (aft l i:Nat)):=by
 induction m using Nat.strongRecOn with
 |ind m ih=>?_
 intro i hi hfu;have hnode:=ht.node _ (C0 hi);obtain⟨c1,c2,c3,c4⟩:=eF hnode;have hll:=ht.len;have hwi:IntKind.i64.wrap ((i:Int)+1)=((i+1:Nat):Int):=A8 _ (by omega);obtain⟨a1,a2,a3⟩:=jL ht hi;refine FW Tryz.func16 ?_;refine R0 ?_;refine RS ?_;have F:=aI @A0 (aI @A4 (aI hi (nM hi)));iterate 6 refine SF ?_
 refine RE ?_;refine aC fun K hK=>?_;refine R0 ?_;refine aF (b:=(l[i].k==1)) rfl (fun hb=>?_) (fun hb=>?_)
 ·
  have hk:l[i].k=1:=by simpa using hb
  obtain⟨⟨r1,r2⟩,r3,r4⟩:=aX6 (bK5 hnode hk);clear hb;refine RS ?_;have F:=aI hwi (aI @fL @dB);refine AU ?_;refine SCF (cO7 l[i].q ⟨by omega,by omega⟩ ⟨by omega,by omega⟩) ?_;refine AU ?_;refine aE (RT Tryz.results16 ?_);exact aO [56] (.slc ((fY l i).map lsC)) (.int .i64 (aft l i:Nat)) (by rw[rQ hi hk,zV ht hi hk];simp[fL]) ⟨rfl,rfl⟩
 have hk1:l[i].k≠1:=by simpa using hb
 clear hb;refine aJ ?_;refine T0 (hK _ _ _ ?_);clear hK K;refine aC fun K hK=>aZ (by kernel_rfl) ?_;simp only[sR,simprocAttr];refine cU (g:=none) 44 rfl rfl fun K' hK'=>?_;simp only[fI,iM,sH,↓sP,sA,tyS,simprocAttr];repeat refine AI ?_
 refine cK (by first|rfl|simp) ?_;try simp only[sH,↓sP,sA,tyS,simprocAttr]
 refine AX (hK' _ _ ?_);clear hK' K';iterate 2 refine SG0 ?_
 refine T2 (hK _ _ _ ?_);clear hK K;refine aC fun K hK=>?_;have key: ∀(A:Nat) (w:List aH) fr ob nx,A<nx→nx≤300→w=(if l[i].k=3 then [fH]else [fE])→Fits 0 (mvF A 300 fr) (mvO A 300 ob) (fin [(0,.c (.slc (l.map Nd.cv))),(1,.c (.int .i64 i)),(6,.ptr 24 0),(7,.own 300 1)]) (fob [(24,.box 56 (.c l[i].cv)),(300,.row 37 1 [lsC w])]) 301→K fr ob nx:=by
  rintro A w fr ob nx hA hnx rfl hf;refine hK _ _ _ (cQ0 A 300 (by omega) hA hnx (bB hf ?_));clear hf hK K;refine aC fun K hK=>?_;have key2: ∀(A:Nat) (w:List aH) fr ob nx,A<nx→nx≤600→w=wlN l[i]→Fits 0 (mvF A 600 fr) (mvO A 600 ob) (fin [(0,.c (.slc (l.map Nd.cv))),(1,.c (.int .i64 i)),(6,.ptr 24 0),(7,.own 600 1)]) (fob [(24,.box 56 (.c l[i].cv)),(600,.row 37 1 [lsC w])]) 601→K fr ob nx:=by
   rintro A w fr ob nx hA hnx rfl hf;refine hK _ _ _ (cQ0 A 600 (by omega) hA hnx (bB hf ?_));clear hf hK K;have F:=hwi;refine RF ?_;refine aC fun K hK=>?_;refine R0 ?_;refine aM ?_;refine bN (α:={k:Nat//k≤l[i].c.toNat}) (fun k=>(fin [(0,.c (.slc (l.map Nd.cv))),(1,.c (.int .i64 (eH l k.1 (i+1):Nat))),(6,.ptr 24 0),(7,.own 600 ((dT l i k.1).length+1)),(8,.c (.int .i64 k.1))],fob [(24,.box 56 (.c l[i].cv)),(600,.row 37 1 ((wlN l[i]::dT l i k.1).map lsC))])) 2000 (fun k=>l[i].c.toNat-k.1) ⟨0,by omega⟩ (fG (by simp[nT,eH])) ?_;rintro⟨k,hk⟩;obtain⟨k1,k2,k3⟩:=iR ht hi k hk;have hkl:=wP ht hi hk hk1;refine aC fun K hK=>?_;refine AU ?_;refine aF (b:=decide ((k:Int)<l[i].c)) rfl (fun hb=>?_) (fun hb=>?_)
   ·
    have hlt:k<l[i].c.toNat:=by simp at hb;omega
    have hkid:=mU ht hi hlt;clear hb;refine aJ ?_;refine T0 (hK _ _ _ ?_);clear hK K;refine aC fun K hK=>?_;refine aM ?_;refine aC fun K hK=>Rg ?_;refine AU ?_;refine HS rfl rfl fun K' hK'=>T5 ?_;refine D2 (ih (l.length-eH l k (i+1)) (by omega) (eH l k (i+1)) hkid (by omega)) ?_;rintro u v ⟨rfl,rfl⟩;refine AX (hK' _ _ ?_);clear hK' K';refine AU ?_;refine T2 (hK _ _ _ ?_);clear hK K;have hl2:=zW ht hkid;have hw1:(dT l i k).length+1+(fY l (eH l k (i+1))).length≤300:=by
     have:=(jL ht hkid).2.1;omega
    have hb1:((dT l i k).length+1+(fY l (eH l k (i+1))).length)*24≤140737488355328:=by omega
    have hb2:(dT l i k).length+1+(fY l (eH l k (i+1))).length≤maxLen:=by unfold maxLen;omega
    refine Rg ?_;have F:=aI @aI5 (aI hb1 hb2);refine AU ?_;refine T2 (hK _ _ _ ?_);clear hK K;refine aL (by kernel_rfl) ?_;refine TQ (A8 ((k:Int)+1) (by omega)) ?_;refine⟨⟨k+1,hlt⟩,?_,?_⟩
    · simp only[];rw[nU ht hi hlt,iQ];exact fF
    show l[i].c.toNat-(k+1)<l[i].c.toNat-k;omega
   refine bG (T3 ?_);clear hK K;refine AX (hK _ _ _ ?_);clear hK K;have hke:k=l[i].c.toNat:=by simp at hb;omega
   subst hke;rw[tY ht hi]at hkl k3⊢;clear hb;refine aC fun K hK=>aZ (by kernel_rfl) ?_;simp only[sR,simprocAttr];have F:=aI @fL @dB;refine SGF ?_;refine cU (g:=none) 2020 rfl rfl fun K' hK'=>?_;simp only[fI,iM,sH,↓sP,sA,tyS,simprocAttr,fL,dB];repeat refine AI ?_
   refine cK (by first|rfl|simp) ?_;try simp only[sH,↓sP,sA,tyS,simprocAttr,fL,dB]
   refine AX (hK' _ _ ?_);clear hK' K';iterate 5 refine SGF ?_
   refine T2 (hK _ _ _ ?_);clear hK K;refine aE (RT Tryz.results16 ?_);exact aO [600] (.slc ((fY l i).map lsC)) (.int .i64 (aft l i:Nat)) (by rw[pE ht hi hk1];simp[aR,fL,lsC,wEnd]) ⟨rfl,rfl⟩
  refine R0 ?_;refine aF (b:=_) rfl (fun hb=>?_) (fun hb=>?_)
  ·
   have hk4:l[i].k=4:=by simpa using hb
   have hnn:=bK6 hnode hk4;clear hb;refine aZ (by kernel_rfl) ?_;simp only[sR,simprocAttr];iterate 2 refine SG0 ?_
   refine bU (g:=none) rfl rfl fun K' hK'=>T5 ?_;refine C1 (uB l[i].n ⟨by omega,by omega⟩) ?_;rintro u rfl;refine AX (hK' _ _ ?_);clear hK' K';refine cU (g:=none) 325 rfl rfl fun K' hK'=>?_;simp only[fI,iM,sH,↓sP,sA,tyS,simprocAttr];repeat refine AI ?_
   refine cK (by first|rfl|simp) ?_;try simp only[sH,↓sP,sA,tyS,simprocAttr]
   refine AX (hK' _ _ ?_);clear hK' K';iterate 2 refine SG0 ?_
   refine T4 ?_;exact key2 329 [bT,numW l[i].n] _ _ _ (by omega) (by omega) (by simp[wlN,hk4]) (fG (by simp[mvF,mvO,mvN,lsC,bT]))
  refine aJ (T3 ?_);have hk4:l[i].k≠4:=by simpa using hb
  exact key2 300 (if l[i].k=3 then [fH]else [fE]) _ _ _ (by omega) (by omega) (by
   by_cases h3:l[i].k=3
   · simp[wlN,h3]
   have h2:l[i].k=2:=by
    apply Classical.byContradiction;exact fun h=>hk4 (bK4 hnode hk1 h h3)
   simp[wlN,h2]) (fG (by simp[mvF,mvO,mvN]))
 refine R0 ?_;refine aF (b:=_) rfl (fun hb=>?_) (fun hb=>?_)
 ·
  refine aZ (by kernel_rfl) ?_;simp only[sR,simprocAttr];refine cU (g:=none) 68 rfl rfl fun K' hK'=>?_;simp only[fI,iM,sH,↓sP,sA,tyS,simprocAttr];repeat refine AI ?_
  refine cK (by first|rfl|simp) ?_;try simp only[sH,↓sP,sA,tyS,simprocAttr]
  refine AX (hK' _ _ ?_);clear hK' K';iterate 2 refine SG0 ?_
  refine T4 ?_;exact key 72 [fH] _ _ _ (by omega) (by omega) (by rw[B6 (by simpa using hb)]) (fG (by simp[mvF,mvO,mvN,lsC,fH]))
 refine aJ (T3 ?_);exact key 48 [fE] _ _ _ (by omega) (by omega) (by rw[A7 (by simpa using hb)]) (fG (by simp[mvF,mvO,mvN,lsC,fE]))
theorem aI6 (ls:List (List aH))(h0:ls.length<2^40)(h1: ∀l∈ls,l.length<2^40):gB Tryz.prog 9 [.slc (ls.map lsC)] (fun u v=>u= .slc ((lK ls).map dG)∧v= .int .i64 (gL ls)):=bJ8 ls h0 h1
theorem cO8 (p:Po)(hp:PoSz p):gB Tryz.prog 4 [p.cv] (fun u v=>u= .slc ((mI p).map dG)∧v= .int .i64 (qU p)):=by
 refine FW Tryz.func4 ?_;refine R0 ?_;refine aC fun K hK=>?_;refine AU ?_;refine SC (aH8 p hp) ?_;refine AU ?_;refine aF (b:=!fA p) rfl (fun hb=>?_) (fun hb=>?_)
 ·
  refine R0 ?_;refine aE (RT Tryz.results4 ?_);have hv:fA p=false:=by simpa using hb
  exact aO [] (.slc []) (.int .i64 1) (by simp) ⟨by rw[mI,hv];rfl,by rw[qU,hv];rfl⟩
 refine aJ ?_;refine T0 (hK _ _ _ ?_);clear hK K;have hv:fA p=true:=by simpa using hb
 clear hb;obtain⟨⟨v1,v2⟩,hr16,_,hrules⟩:=qL hv;refine aC fun K hK=>cP mixed [(0,[],[]),(1,[],[]),(2,[],[]),(3,[],[]),(4,[],[0,1]),(5,[],[]),(6,[],[]),(7,[],[])] [0,1,0,4,12,31,63,127] (by kernel_rfl) (by kernel_rfl) (by kernel_rfl) (by kernel_rfl) rfl (by kernel_rfl) ?_;iterate 4 refine WG0 ?_
 refine bR (g:=none) rfl rfl fun K' hK'=>T5 ?_;refine C1 (uB p.v ⟨by omega,by omega⟩) ?_;rintro u rfl;refine AX (hK' _ _ ?_);clear hK' K';refine eS (g:=none) 44 rfl rfl fun K' hK'=>?_;simp only[fI,iM,sH,↓sP,sA,tyS,simprocAttr];repeat refine AI ?_
 refine cK (by first|rfl|simp) ?_;try simp only[sH,↓sP,sA,tyS,simprocAttr]
 refine AX (hK' _ _ ?_);clear hK' K';iterate 2 refine WG0 ?_
 refine T2 (hK _ _ _ ?_);clear hK K;refine aC fun K hK=>?_;refine R0 ?_;refine aM ?_;refine bN (α:={i:Nat//i≤p.r.length}) (fun i=>(fin [(1,.ptr 0 0),(4,.own 48 (mJ p i.1).length),(5,.c (.int .i64 i.1))],fob [(0,.box 29 (.c p.cv)),(48,.row 37 1 ((mJ p i.1).map lsC))])) 2000 (fun i=>p.r.length-i.1) ⟨0,by omega⟩ (fG (by simp[mJ,lsC,wPolicy])) ?_;rintro⟨i,hi⟩;have hll:=zX hrules i hi;have hl0:0<(mJ p i).length:=by simp[mJ]
 refine aC fun K hK=>?_;refine AU ?_;refine aF (b:=decide ((i:Int)<p.r.length)) rfl (fun hb=>?_) (fun hb=>?_)
 ·
  have hlt:i<p.r.length:=by simpa using hb
  clear hb;obtain⟨r,hr⟩: ∃r,r=p.r[i]:=⟨_,rfl⟩;have hrule:=hrules r (by rw[hr];exact C0 hlt);obtain⟨⟨g1,g2⟩,ht,_⟩:=jC hrule;have ht0:0<r.t.length:=ht.ne;have htl:=ht.len;obtain⟨L,hL⟩: ∃L,L=mJ p i:=⟨_,rfl⟩;rw[←hL]at hll hl0⊢;refine aJ ?_;refine T0 (hK _ _ _ ?_);clear hK K;refine aC fun K hK=>?_;refine aM ?_;refine RS ?_;iterate 7 refine S0 ?_ (e:=fun _ h_=>by simp only[sH,↓sP,sA,tyS,simprocAttr,A0,A4,hlt,aV hlt,←hr];exact AX h_)
  refine RE ?_;refine aC fun K hK=>cP mixed [(0,[],[]),(1,[],[]),(2,[],[]),(3,[],[]),(4,[],[]),(5,[],[]),(6,[],[]),(7,[],[]),(8,[],[]),(9,[],[0,1,2,3,4,5,6]),(10,[],[]),(11,[],[]),(12,[],[]),(13,[],[])] [0,0,2,0,8,0,32,0,128,384,1022,2046,4095,8191] (by kernel_rfl) (by kernel_rfl) (by kernel_rfl) (by kernel_rfl) rfl (by kernel_rfl) ?_;iterate 9 refine WG0 ?_
  refine bR (g:=none) rfl rfl fun K' hK'=>T5 ?_;refine C1 (uB r.g ⟨by omega,by omega⟩) ?_;rintro u rfl;refine AX (hK' _ _ ?_);clear hK' K';refine eS (g:=none) 2088 rfl rfl fun K' hK'=>?_;simp only[fI,iM,sH,↓sP,sA,tyS,simprocAttr];repeat refine AI ?_
  refine cK (by first|rfl|simp) ?_;try simp only[sH,↓sP,sA,tyS,simprocAttr]
  refine AX (hK' _ _ ?_);clear hK' K';iterate 3 refine WG0 ?_
  refine T2 (hK _ _ _ ?_);clear hK K;obtain⟨M,hM⟩: ∃M,M=L++[[wRule,r.a,r.b,r.c,numW r.g]]:=⟨_,rfl⟩;have hMm:List.map lsC L++[CV.slc [CV.str [114,117,108,101],CV.str r.a,CV.str r.b,CV.str r.c,CV.str (numW r.g)]]=List.map lsC M:=by rw[hM];simp[lsC,wRule]
  have hMl:L.length+1=M.length:=by rw[hM];simp
  rw[hMm];simp only[A2];refine aC fun K hK=>Rg ?_;refine AU ?_;refine HS rfl rfl fun K' hK'=>T5 ?_;refine D2 (cG9 r.t ht r.t.length 0 ht0 (by omega)) ?_;rintro u v ⟨rfl,rfl⟩;refine AX (hK' _ _ ?_);clear hK' K';refine AU ?_;refine T2 (hK _ _ _ ?_);clear hK K;have hl2:=zW ht ht0;have ha2:=(jL ht ht0).2.1;have hw1:M.length+(fY r.t 0).length≤100000:=by omega
  have hb1:(M.length+(fY r.t 0).length)*24≤140737488355328:=by omega
  have hb2:M.length+(fY r.t 0).length≤maxLen:=by unfold maxLen;omega
  refine Rg ?_;have F:=aI @aI5 (aI hb1 (aI hb2 @A2.{0,0}));refine AU ?_;refine T2 (hK _ _ _ ?_);clear hK K;refine aL (by kernel_rfl) ?_;refine TQ (A8 ((i:Int)+1) (by omega)) ?_;refine⟨⟨i+1,hlt⟩,?_,?_⟩
  ·
   have e1:mJ p (i+1)=M++fY r.t 0:=by rw[vK hlt,hM,hL,sC,←hr];simp[jB]
   simp only[];rw[e1];exact fF
  show p.r.length-(i+1)<p.r.length-i;omega
 refine bG (T3 ?_);clear hK K;refine AX (hK _ _ _ ?_);clear hK K;have hei:i=p.r.length:=by simp at hb;omega
 subst hei;clear hb;rw[uA];refine cM [48] (bB (fr2:=fin [(4,.c (.slc ((jM p).map lsC)))]) (ob2:=fob []) (nx2:=3000) (aP (by omega) (by simp[aR]) (by simp)) ?_);rw[uA]at hll;refine aC fun K hK=>Rg ?_;have F:=@aR;refine SF ?_;refine HS rfl rfl fun K' hK'=>T6 ?_;refine D1 (aI6 (jM p) (by omega) (bL2 p)) ?_;rintro u v ⟨rfl,rfl⟩;refine AX (hK' _ _ ?_);clear hK' K';refine AU ?_;refine T2 (hK _ _ _ ?_);clear hK K;refine aE (RT Tryz.results4 ?_);exact aO [] (.slc ((lK (jM p)).map dG)) (.int .i64 (gL (jM p))) (by simp[dE]) ⟨by rw[mI,B6 hv],by rw[qU,B6 hv]⟩
end Go.Proofs.YtlgckianjabghaaGreatDoor
