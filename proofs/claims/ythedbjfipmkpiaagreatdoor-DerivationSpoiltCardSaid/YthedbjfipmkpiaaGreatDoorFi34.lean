/- DerivationSpoilt: for any tape of numbers, any two numbers and any text the law returns true and leaves them as they were: of the encoded lines of a made derivation of which one is left out, doubled or changed in a word, and of which a byte may be changed, Decode answers as the reference's Decode does, and what it takes is encoded to the same bytes. The listed tables of the library are tied to the program's text by the card. By an AI agent. -/
import Derived.Lay
import Derived.SevenTiedAt
import Derived.Test.YthedbjfipmkpiaaGreatDoorPl31S
import Derived.Test.YthedbjfipmkpiaaGreatDoorCards
import Derived.Test.YthedbjfipmkpiaaGreatDoorTie
set_option maxRecDepth 100000
set_option maxHeartbeats 16000000
set_option linter.unusedSimpArgs false
set_option linter.unusedVariables false
set_option linter.defProp false
namespace Go.Proofs.YthedbjfipmkpiaaGreatDoor
open Go Go.Hl Go.Pl
theorem bT3 : ∀l:List (List aK),HV.toCL (l.map fun l=>HV.c (lsC l))=some (l.map lsC)
 |[]=>rfl
 |x::l=>by rw[B8,HV.toCL,bT3 l];rfl
variable {w:List aK}{ls:List (List aK)}{ob:Ob}
theorem cR6 {I N:Nat}(h:ob N=some (.row 9 1 (w.map .str)))(J:I<ls.length)(hl:w.length=(ls.getD I []).length):HV.closeL ob [N] (exK ls I N)=(ls.set I w).map fun l=>HV.c (lsC l):=by
 rw[mZ,exK,R8,Q4,R8];congr 1
 · apply O6;intro l _;simp[lsC,denilL_str]
 simp only[HV.close,h,A0,hl,G4];rw[B1 (by simp)];rfl
theorem cR7 :cM=u8:=rfl
theorem bG3 (l:List (List aK)):(∀v∈l.map lsC,v.cells=1)=True:=FN fun v h=>by obtain⟨x,_,rfl⟩:=H0.1 h;rfl
theorem wG {n:Nat}{code:Code}{Q:Exit→Fr→Ob→Nat→Prop}{I nx:Nat}{i how:Int}{fr:Fr}(J:I<ls.length)(hl:w.length=(ls.getD I []).length)
  (hf:Fits 1 fr ob (fin [(1,.c (.int .i64 i)),(2,.c (.int .i64 how)),(11,.own 45 ls.length),(13,.c (.int .i64 I))]) (fob [(0,.tab tabs),(45,.hrow 71 1 (exK ls I 46)),(46,.row 9 1 (w.map .str))]) 5000) (h:Hw Tryz.prog n 1 code Q (fin [(1,.c (.int .i64 i)),(2,.c (.int .i64 how)),(11,.c (.slc ((ls.set I w).map lsC))),(13,.c (.int .i64 I))]) (fob [(0,.tab tabs)]) 6000):Hw Tryz.prog n 1 code Q fr ob nx:=by
 refine aZ hf (bW [46] (mU 45 ((ls.set I w).map lsC) rfl (by rw[cR6 (w:=w) rfl J hl];exact bT3 _) (bW [45] (aZ ?_ h))));exact fG (by simp[cK,A0,M5])
theorem aH5 {m s m' I:Nat}(h:LsS ls m s)(hm:m≤m')(hs:s≤I):LsS ls m' I:=⟨h.ok,R6 h.len hm,R6 h.sum hs⟩
theorem dA8 (n:Int): ∃b:UInt8,IntKind.u8.wrap n=(b.toNat:Int):=by
 refine⟨UInt8.ofNat (n%256).toNat,?_⟩;rw[←dE6];simp only[IntKind.wrap];have I:0≤n%256:=by omega
 rw[BT I];simp[IntKind.bits]
theorem dM3 (b:aK):DvW (ddO b):=by
 unfold ddO;cases h:gF b with
 |none=>exact⟨by decide,by decide,by simp[dv0],by simp[dv0,fV,lA],by simp[dv0]⟩
 |some d=>
  unfold gF at h;split at h
  ·
   cases I:fZ (gT b)with
   |none=>rw[I]at h;cases h
   |some e=>
    rw[I,J0]at h;split at h
    · obtain rfl:=F6 h;exact cM1 (aU8 zP vD I)
    cases h
  cases h
theorem cR8 {b:aK}(h:ddE b=0):dvE (ddO b)=0∧dvO (ddO b)=b:=by
 unfold ddE at h;split at h
 · rename_i h1;exact absurd h h1
 cases I:gF b with
 |none=>rw[I]at h;cases h
 |some d=>
  rw[ddO,I];unfold gF at I;split at I
  ·
   cases J:fZ (gT b)with
   |none=>rw[J]at I;cases I
   |some e=>
    rw[J,J0]at I;split at I
    · rename_i U;obtain rfl:=F6 I;exact U
    cases I
  cases I
theorem bM8 (L:List Int)(i how:Int)(s:aK)(bo:s.length<2^63):qD Tryz.prog 9 tabs [.slc (L.map (.int .i64)),.int .i64 i,.int .i64 how,.str s] (fun v=>v= .bool true):=by
 refine bO (args:=[.c (.slc (L.map (.int .i64))),.c (.int .i64 i),.c (.int .i64 how),.c (.str s)]) Tryz.func9 rfl (by kernel_rfl) (iP tabs [.slc (L.map (.int .i64)),.int .i64 i,.int .i64 how,.str s]) (C7 rfl) ?_;unfold iM;refine R0 ?_;refine aC fun K U=>Rg ?_;have F:=@denilL_int;refine SF ?_;refine HS rfl rfl fun K' I=>T6 ?_;refine dR [] (cZ1 L 200) rfl trivial (by simp) (by simp) ⟨rfl,rfl,rfl,rfl⟩ (by simp[cV]) (by simp) ?_;rintro r aq ⟨rfl,rfl⟩;rw[cP8,cB2];refine AX (I _ _ ?_);clear I K';refine HS rfl rfl fun K' I=>T6 ?_;refine bP (args:=[]) (cB8 (L.take 200) 0 (by omega)) rfl (by simp) ⟨rfl,rfl,rfl,rfl⟩ ?_;rintro u v' ⟨d,a',rfl,rfl,hd⟩;have hE:=bZ7 hd;have ar:=cZ8 hd;have ad:=cR4 hd;obtain⟨_,hz,ho⟩:=aT8 hE;obtain⟨e3,e4⟩:=bQ1 hz;have au:=cZ9 hE;have ao:1≤(fV d).length:=by simp[fV,lA]
 rw[←ho]at e3 e4;refine AX (I _ _ ?_);clear I K';refine HS rfl rfl fun K' I=>T6 ?_;refine D1 (aP6 d ar) ?_;rintro u v ⟨rfl,rfl⟩;rw[hE,cR7];refine AX (I _ _ ?_);clear I K';refine AU ?_;refine T2 (U _ _ _ ?_);clear U K;obtain⟨ls,an⟩: ∃ls,ls=fV d:=⟨_,rfl⟩;rw[←an]at ad ao e4;have hlen:=ad.len;have bk:=dH0 (n:=i) (k:=(ls.length:Int)) (by omega);obtain⟨kk,bh⟩: ∃kk:Nat,wiN i ls.length=kk:=⟨(wiN i ls.length).toNat,by omega⟩;have J:kk<ls.length:=by omega
 clear hz ho ar hd;refine aC fun K U=>Rg ?_;have F:=@denilL_u8;refine SF ?_;refine HS rfl rfl fun K' I=>T6 ?_;refine dR [] (cP6 (dvO d) au e3 kk (by rw[e4];exact J)) rfl trivial (by simp) (by simp) ⟨rfl,rfl,rfl,rfl⟩ (by simp[cV]) (by simp) ?_;rintro r aq ⟨rfl,rfl⟩;rw[e4];simp only[osK,HV.ren,HV.renL,iL,HO.ren,wD,F0,show sub [] 45 0=45 from rfl,show sub [] 45 1=46 from rfl];refine AX (I _ _ ?_);clear I K';refine AU ?_;refine T2 (U _ _ _ ?_);clear U K;refine aC fun K U=>?_;refine RS ?_;have F:=show((0:Int) !=0)=false from rfl
 refine AU ?_;refine CF rfl ?_;refine aG ?_;refine T0 (U _ _ _ ?_);clear U K;refine aC fun K U=>aY (by kernel_rfl) ?_;simp only[sR,simprocAttr];have F:=@gO;iterate 2 refine SGF ?_
 refine aU (g:=none) rfl rfl fun K' I=>?_;simp only[sN,↓hopH.eq_def,sH,↓sP,sA,tyS,simprocAttr,gO];refine AX (I _ _ ?_);clear I K';refine cE (g:=none) rfl rfl fun K' I=>T6 ?_;refine C2 (bF4 i ls.length (by omega) (by omega)) ?_;rintro u rfl;rw[bh];refine AX (I _ _ ?_);clear I K';refine SGF ?_;refine T2 (U _ _ _ ?_);clear U K;refine aC fun K U=>?_;have key: ∀(aa:List (List aK)) fr ob nx,LsS aa 303 128000→(∀n code Q,Hw Tryz.prog n 1 code Q (fin [(1,.c (.int .i64 i)),(2,.c (.int .i64 how)),(11,.c (.slc (aa.map lsC)))]) (fob [(0,.tab tabs)]) 7000→Hw Tryz.prog n 1 code Q fr ob nx)→K fr ob nx:=by
  rintro aa fr ob nx ag ak;refine U _ _ _ (ak _ _ _ ?_);clear ak U K;obtain⟨g1,g2⟩:=ag.enc (by omega) (by omega);have aw:=ag.len;have bc:=ag.ok;refine aC fun K U=>Rg ?_;have F:=@cK;refine SF ?_;refine HS rfl rfl fun K' I=>T6 ?_;refine dR [] (cP7 aa (by omega) (fun l hl=>by have:=((eG l).1 (bc l hl)).2.1;omega) g1) rfl trivial (by simp) (by simp) ⟨rfl,rfl,rfl,rfl⟩ (by simp[cV]) (by simp) ?_;rintro r aq ⟨rfl,rfl⟩;simp only[HV.ren,HV.renL,iL,HO.ren,F0,show sub [] 7004 0=7004 from rfl,A0];refine AX (I _ _ ?_);clear I K';refine AU ?_;refine T2 (U _ _ _ ?_);clear U K;refine aC fun K U=>?_;have key: ∀(c:aK) fr ob nx,c.length≤262144→Fits 1 fr ob (fin [(14,.own 7004 c.length),(15,.c (.int .i64 0))]) (fob [(0,.tab tabs),(7004,.row 5 1 (c.map cM))]) 9000→K fr ob nx:=by
   rintro c fr ob nx hc hf;refine U _ _ _ (aZ hf (bW [7004] (aZ (fr2:=fin [(14,.c (.slc (c.map cM))),(15,.c (.int .i64 0))]) (ob2:=fob [(0,.tab tabs)]) (nx2:=10000) (fG (by simp[bT,A0])) ?_)));clear hf U K;obtain⟨bj,ah⟩:=dH5 c;refine aC fun K U=>Rg ?_;have F:=@bT;refine SF ?_;refine HS rfl rfl fun K' I=>T6 ?_;refine fO (args:=[_]) 0 (bS4 c (by omega)) rfl (by simp) ⟨rfl,rfl,rfl,rfl⟩ ?_;rintro u v ⟨rfl,rfl⟩;refine AX (I _ _ ?_);clear I K';refine AU ?_;refine T2 (U _ _ _ ?_);clear U K;refine aC fun K U=>Rg ?_;refine SF ?_;refine HS rfl rfl fun K' I=>T6 ?_;refine D1 (cR3 c (by omega)) ?_;rintro u v ⟨rfl,rfl⟩;refine AX (I _ _ ?_);clear I K';refine AU ?_;refine T2 (U _ _ _ ?_);clear U K;refine aC fun K U=>Rg ?_;refine SF ?_;refine HS rfl rfl fun K' I=>T6 ?_;refine fO (args:=[_]) 0 (aF3 (ddO c) (dM3 c)) rfl (by simp) ⟨rfl,rfl,rfl,rfl⟩ ?_;rintro u v ⟨rfl,rfl⟩;refine AX (I _ _ ?_);clear I K';refine AU ?_;refine T2 (U _ _ _ ?_);clear U K;by_cases ai:ddE c=0
   · obtain⟨q1,q2⟩:=cR8 ai;rw[ai,q1,q2];have hq:((0:Int) !=0)=false:=rfl;refine aC fun K U=>Rg ?_;have F:=aI hq (aI @J5.{0} @bT);refine AU ?_;refine SRF (bT0 (ddO c) (ddO c) (by omega) (fun z hz=>⟨by have:=(ah z hz).1;omega,by have:=(ah z hz).2;omega⟩)) ?_;rintro u ⟨c2,rfl,aj⟩;obtain rfl:=aj.2 rfl;refine AU ?_;refine aX (g:=some (158,true)) rfl rfl fun K' I=>T6 ?_;refine lY (args:=[]) 0 bF0 rfl (by simp) ⟨rfl,rfl,rfl,rfl⟩ ?_;rintro u rfl;refine AX (I _ _ ?_);clear I K';refine AU ?_;refine T2 (U _ _ _ ?_);clear U K;refine aE (RT Tryz.results9 ?_);exact oX [] (.bool true) rfl rfl (by simp) rfl
   have hq:(ddE c !=0)=true:=by simpa using ai
   refine aC fun K U=>Rg ?_;have F:=aI hq (aI @J5.{0} @bT);refine AU ?_;refine SRF (bT0 (ddO c) (ddO c) (by omega) (fun z hz=>⟨by have:=(ah z hz).1;omega,by have:=(ah z hz).2;omega⟩)) ?_;rintro u ⟨c2,rfl,aj⟩;obtain rfl:=aj.2 rfl;refine AU ?_;refine aX (g:=some (158,true)) rfl rfl fun K' I=>T6 ?_;refine lY (args:=[]) 0 bF0 rfl (by simp) ⟨rfl,rfl,rfl,rfl⟩ ?_;rintro u rfl;refine AX (I _ _ ?_);clear I K';refine AU ?_;refine T2 (U _ _ _ ?_);clear U K;refine aE (RT Tryz.results9 ?_);exact oX [] (.bool true) rfl rfl (by simp) rfl
  refine aC fun K U=>?_;have key: ∀(B2:Bool) fr ob nx,(B2=true→0<(jZ aa).length)→Fits 1 fr ob (fin [(1,.c (.int .i64 i)),(2,.c (.int .i64 how)),(14,.own 7004 (jZ aa).length),(15,.c (.int .i64 0)),(105,.c (.bool B2))]) (fob [(0,.tab tabs),(7004,.row 5 1 ((jZ aa).map cM))]) 8000→K fr ob nx:=by
   rintro B2 fr ob nx ax hf;refine U _ _ _ (aZ hf ?_);clear hf U K;refine aJ (b:=B2) rfl (fun hb=>?_) (fun hb=>?_)
   ·
    have h0:=ax hb;refine Rg ?_;have F:=aI @A0.{0,0} (aI @A1 (aI @A4 @A6));refine AU ?_;refine SRF (tQ _ (jZ aa).length (by omega) (by omega)) ?_;rintro u ⟨j,hj,rfl⟩;have ae:j<(jZ aa).length:=by omega
    iterate 3 refine SF ?_
    have F:=aI @A0.{0,0} (aI @A1 (aI @A4 (aI @A6 (aI ae (nM ae)))));refine AU ?_;refine T4 ?_;obtain⟨b,bg⟩:=dA8 (how.fdiv (2^min 3 IntKind.i64.bits));exact key ((jZ aa).set j b) _ _ _ (by simpa using g2) (fG (by simp[R8,M5,cM,bg]))
   refine aG (T3 ?_);exact key (jZ aa) _ _ _ g2 (fG (by simp))
  by_cases hB:0<IntKind.i64.wrap ((BitVec.ofInt IntKind.i64.bits how&&&BitVec.ofInt IntKind.i64.bits 4).toNat:Nat)
  ·
   refine Rg ?_;iterate 8 refine S0 ?_ (e:=fun _ h_=>by simp only[sH,↓sP,sA,tyS,simprocAttr,hB,DS,CS,A0];exact AX h_)
   refine T4 ?_;exact key (decide (0<(jZ aa).length)) _ _ _ (fun h=>by simpa using h) (fG (by simp[iL]))
  refine Rg ?_;iterate 8 refine S0 ?_ (e:=fun _ h_=>by simp only[sH,↓sP,sA,tyS,simprocAttr,hB,DS,CS,A0];exact AX h_)
  refine T4 ?_;exact key false _ _ _ (fun h=>by cases h) (fG (by simp[iL]))
 refine AU ?_;refine SR (tQ how 4 (by omega) (by omega)) ?_;rintro u ⟨x,bn,rfl⟩;refine RE ?_;refine aL ?_;have af:ls.set kk (ls.getD kk [])=ls:=by simp[J]
 have bb:IntKind.i64.wrap ((kk:Int)+1)=((kk+1:Nat):Int):=by rw[B0 _ (by omega)];rfl
 have ay:kk+1≤ls.length:=J;have bd:(ls.drop (kk+1)).take (ls.length-(kk+1))=ls.drop (kk+1):=C8 (by simp);have az:(ls.drop kk).take (ls.length-kk)=ls.drop kk:=C8 (by simp);have hgd:ls.getD kk []=ls[kk]:=by simp[J]
 refine R0 ?_;refine aJ (b:=_) rfl (fun hb=>?_) (fun hb=>?_)
 ·
  refine wG (i:=i) (how:=how) (w:=ls.getD kk []) J rfl (fG (by simp[gP])) ?_;rw[af];refine DW [(0,[],[]),(1,[],[]),(2,[],[]),(4,[],[]),(5,[],[]),(6,[],[]),(7,[],[]),(3,[],[4,5,6,7]),(8,[],[]),(9,[],[])] [0,0,3,7,0,0,32,112,255,511] ?_;iterate 10 refine W0 ?_ (e:=fun _ h_=>by simp only[sH,↓sP,sA,tyS,simprocAttr,bb,ay,bG3,dX,aU3,A0,A1,A4,H1,S3 J,J,A6,H6,G2,I1,←List.map_take,←List.map_drop,←List.map_append,cK,C6];exact AX h_)
  refine T4 ?_;exact key (ls.take kk++ls.drop (kk+1)) _ _ _ (aH5 (ad.out J) (by omega) (by omega)) fun N code Q h=>bW [6012] (aZ (fG (by simp[cK,A0,C5,A3,←List.map_take,←List.map_drop,bd])) h)
 refine R0 ?_;refine aJ (b:=_) rfl (fun hb=>?_) (fun hb=>?_)
 ·
  refine wG (i:=i) (how:=how) (w:=ls.getD kk []) J rfl (fG (by simp[gP])) ?_;rw[af];refine DW [(0,[],[]),(1,[],[]),(2,[],[]),(4,[],[]),(5,[],[]),(6,[],[]),(7,[],[]),(8,[],[]),(10,[8],[]),(11,[8],[]),(12,[8],[]),(3,[8],[4,5,6,7,8,10,11,12]),(9,[],[10,11,12]),(13,[],[]),(14,[],[])] [0,0,3,7,0,0,48,112,240,511,0,0,3072,8191,16383] ?_;iterate 15 refine W0 ?_ (e:=fun _ h_=>by simp only[sH,↓sP,sA,tyS,simprocAttr,bG3,dX,aU3,A0,A1,A4,H1,S3 J,J,A6,H6,G2,I1,←List.map_take,←List.map_drop,←List.map_append,cK,C6,aW J];exact AX h_)
  refine T4 ?_;have bf:List.map lsC (ls.take (kk+1))=List.map lsC (ls.take kk)++[lsC ls[kk]]:=by
   rw[A5 J,C5];rfl
  exact key (ls.take kk++[ls[kk]]++ls.drop kk) _ _ _ (ad.two J) fun N code Q h=>bW [6012] (aZ (fG (by simp[cK,A0,C5,A3,←List.map_take,←List.map_drop,az,bf])) h)
 refine R0 ?_;refine aJ (b:=_) rfl (fun hb=>?_) (fun hb=>?_)
 ·
  obtain⟨w,hw⟩: ∃w,w=ls[kk]:=⟨_,rfl⟩;rw[←hw]at hgd;have bm:1≤w.length∧w.length<2^40:=by
   have:=(eG _).1 (ad.ok ls[kk] (B5 J));rw[hw];obtain⟨a,b,-⟩:=this;exact⟨J8.2 a,by omega⟩
  have e: ∃m:Nat,(if(300:Int)<(s.length:Int)then(300:Int)else(s.length:Int))=(m:Int)∧m≤s.length∧m≤300:=⟨min 300 s.length,by split<;>omega,by omega,by omega⟩;obtain⟨m,e,ab,bl⟩:=e;obtain⟨S,hS⟩: ∃S:aK,S=s.take m:=⟨_,rfl⟩;have ba:S.length≤300:=by rw[hS,E1];omega
  refine dT mixed [(0,[],[]),(1,[],[]),(2,[],[]),(3,[],[]),(4,[],[]),(5,[],[]),(6,[],[]),(7,[],[]),(8,[],[]),(9,[],[]),(10,[],[]),(12,[],[]),(13,[],[]),(14,[],[]),(15,[],[]),(16,[],[]),(11,[],[0,1,2,3,12,13,14,15,16]),(17,[],[]),(18,[],[])] [0,0,3,7,0,16,0,0,192,448,960,2032,0,0,8192,24576,61440,131071,262143] (by kernel_rfl) (by kernel_rfl) (by kernel_rfl) (by kernel_rfl) rfl (by kernel_rfl) ?_;iterate 2 refine WG0 ?_ (e:=fun _ h_=>by simp only[sH,↓sP,sA,tyS,simprocAttr,kU J,gO,J,hgd,A1,A4,A6,A0,e,ab,H1,G2,H6,←hS];exact AX h_)
  refine bI (g:=none) rfl rfl fun K' I=>?_;simp only[sN,↓hopH.eq_def,sH,↓sP,sA,tyS,simprocAttr,kU J,gO,J,hgd,A1,A4,A6,A0,e,ab,H1,G2,H6,←hS];refine AX (I _ _ ?_);clear I K';refine bI (g:=none) rfl rfl fun K' I=>?_;simp only[sN,↓hopH.eq_def,sH,↓sP,sA,tyS,simprocAttr,kU J,gO,J,hgd,A1,A4,A6,A0,e,ab,H1,G2,H6,←hS];refine AX (I _ _ ?_);clear I K';iterate 4 refine WG0 ?_ (e:=fun _ h_=>by simp only[sH,↓sP,sA,tyS,simprocAttr,kU J,gO,J,hgd,A1,A4,A6,A0,e,ab,H1,G2,H6,←hS];exact AX h_)
  refine bI (g:=none) rfl rfl fun K' I=>?_;simp only[sN,↓hopH.eq_def,sH,↓sP,sA,tyS,simprocAttr,kU J,gO,J,hgd,A1,A4,A6,A0,e,ab,H1,G2,H6,←hS];refine AX (I _ _ ?_);clear I K';refine bI (g:=none) rfl rfl fun K' I=>?_;simp only[sN,↓hopH.eq_def,sH,↓sP,sA,tyS,simprocAttr,kU J,gO,J,hgd,A1,A4,A6,A0,e,ab,H1,G2,H6,←hS];refine AX (I _ _ ?_);clear I K';iterate 6 refine WG0 ?_ (e:=fun _ h_=>by simp only[sH,↓sP,sA,tyS,simprocAttr,kU J,gO,J,hgd,A1,A4,A6,A0,e,ab,H1,G2,H6,←hS];exact AX h_)
  refine cT (g:=none) rfl rfl fun K' I=>?_;simp only[sH,↓sP,sA,tyS,simprocAttr,kU J,gO,J,hgd,A1,A4,A6,A0,e,ab,H1,G2,H6,←hS];refine C2 (tQ _ w.length (by omega) (by omega)) ?_;rintro u ⟨j,hj,rfl⟩;have ae:j<w.length:=by omega
  refine AX (I _ _ ?_);clear I K';iterate 2 refine WG0 ?_ (e:=fun _ h_=>by simp only[sH,↓sP,sA,tyS,simprocAttr,kU J,gO,J,hgd,A1,A4,A6,A0,ae,aW ae];exact AX h_)
  refine T4 ?_;rw[hw]at hgd;exact key (ls.set kk (ls[kk].set j S)) _ _ _ (aH5 (ad.word J j ba) (by omega) (by omega)) fun N code Q h=>wG (i:=i) (how:=how) (w:=ls[kk].set j S) J (by simp[J]) (fG (by simp[gP,hw,R8,A0,M5])) (aZ (fG (by simp)) h)
 refine aG (T3 ?_);exact key ls _ _ _ (aH5 ad (by omega) (by omega)) fun N code Q h=>wG (i:=i) (how:=how) (w:=ls.getD kk []) J rfl (fG (by simp[gP])) (by rw[af];exact aZ (fG (by simp)) h)
theorem aJ5 {W:World}(h:laidMetH Tryz.prog Rows.derivationSpoiltRow.laid W):Lib.TabIs Tryz.prog W "internal/strconv.uint64pow10" .u64 Lib.pow10Tab:=by
  rw[MakeChecks.laidMetH_plain _ _ _ (by kernel_rfl)]at h;have h2:=laidMet.filter (fun x=>x.1== "internal/strconv.uint64pow10") h;have e:(Rows.derivationSpoiltRow.laid.filter fun x=>x.1== "internal/strconv.uint64pow10")=[("internal/strconv.uint64pow10",Lib.tabData .u64 Lib.pow10Tab)]:=by kernel_rfl
  rw[e]at h2;exact Lib.tabIs_of_head aT9 (by kernel_rfl) Tryz.underlying199 Tryz.underlying135 (by kernel_rfl) (by kernel_rfl) h2
theorem mP (H:Type)(enc:TypeId×Value→H)(W:World)(args:Array Value)(U gs:List (DataW H))(before:List MemPlace)
    (hL:laidMetH Tryz.prog Rows.derivationSpoiltRow.laid W)
    (J: ∀(j:Nat) t v,Tryz.f9.params[j]? =some t→args[j]? =some v→Value.okWide Tryz.prog W .any 0 t v)
    (hW:DataW.Whole enc Tryz.prog Tryz.f9.params.toList Rows.derivationSpoiltSpec.vars false W args.toList U gs before):
    Calls Tryz.prog 9 args W fun e W'=> ∃v,e= .returned v∧Rows.derivationSpoiltSpec.post enc Tryz.prog Tryz.f9 false true false false W args v W':=by
  refine bW0 (mm:=6) (tb:=4) (tabs:=tabs) (by kernel_rfl) dL6 bM3 rfl (by kernel_rfl) Tryz.underlying4 ?_ ?_ ?_ ?_ (fun j t v h1 h2=>?_) hW
  · rw[Tryz.params9]
    intro H U h
    match U,h with
    |[c0,c1,c2,c3],_=>exact⟨rfl,rfl,rfl⟩
  · rw[Tryz.params9]
    intro t ht;simp only[E0,H7,N6]at ht;rcases ht with rfl|rfl|rfl|rfl
    · exact⟨by kernel_rfl,F9 (by kernel_rfl)⟩
    · exact⟨by kernel_rfl,F9 (by kernel_rfl)⟩
    · exact⟨by kernel_rfl,F9 (by kernel_rfl)⟩
    · exact⟨by kernel_rfl,F9 (by kernel_rfl)⟩
  · rw[Tryz.params9]
    intro cs hn I
    match cs,hn,I with
    |[c0,c1,c2,c3],_,I=>
      obtain⟨L,rfl,_,_⟩:=cY7 (I 0 _ c0 rfl rfl);obtain⟨a,rfl,_⟩:=(I 1 _ c1 rfl rfl).of_int Tryz.underlying3;obtain⟨w,rfl,_⟩:=(I 2 _ c2 rfl rfl).of_int Tryz.underlying3;obtain⟨s,rfl,hs⟩:=(I 3 _ c3 rfl rfl).of_str Tryz.underlying9;exact bM8 L a w s (by unfold maxLen at hs;omega)
  · intro x hx
    simp only[tabs,E0,H7,N6]at hx;rcases hx with rfl
    · exact aI7 aT9 (aJ5 hL)
  · exact J j t v h1 h2
open Go.ChangeShapes Go.WideShapes Go.ChangeAt Go.RowKit in
set_option maxRecDepth 100000 in
theorem oK (os:Os)(started:os.Started)(H:Type)(enc:TypeId×Value→H):
    ReturnsInHanded {} Tryz.checked os 9 .any (fun w args=>(Rows.derivationSpoiltSpec.pre enc Tryz.prog Tryz.f9 [] false w args∧laidMetH Tryz.prog Rows.derivationSpoiltRow.laid w)∧sizedMet enc Tryz.prog Tryz.f9 (OpenSpec.ofChange Rows.derivationSpoiltSpec) false w args)
      (Rows.derivationSpoiltSpec.post enc Tryz.prog Tryz.f9 false true false false):=by
  refine returnsInHanded_of_change_and (C:=Tryz.checked) (X:=fun w _=>laidMetH Tryz.prog Rows.derivationSpoiltRow.laid w) (fun _ _ _ U h=>h.of_heap U) own started (by kernel_rfl) Tryz.func9
    (ChangeSpec.witness_shaped (enc:=enc) (C:=Tryz.checked) (os:=os) (X:=fun w _=>laidMetH Tryz.prog Rows.derivationSpoiltRow.laid w) false (World.laidAll Tryz.prog os Rows.derivationSpoiltRow.laid) #[.slice none 0 0,.int .i64 0,.int .i64 0,.string ⟨#[]⟩] 8 (World.laidAll_os _ _ _)
      (World.shaped_of_ZipB (by kernel_rfl) (by kernel_rfl)) (by kernel_rfl) (by kernel_rfl) (by kernel_rfl)
      (by rw[MakeChecks.laidMetH_plain _ _ _ (by kernel_rfl)];exact laidMet_laidAll _ (by kernel_rfl) (by kernel_rfl))) ?_
  intro W base args ds gs before I hW _ _ J _;exact mP H enc W args ds gs before J (fun j t v h1 h2=>(I j t v h1 h2)) hW
theorem qT :Rows.DerivationSpoiltSaid:=
  OpenClaim.holds_of_wide 9 Tryz.f9 rfl rfl rfl rfl rfl rfl rfl ⟨rfl,rfl,rfl,rfl,rfl⟩ rfl rfl rfl rfl rfl (by kernel_rfl) Tryz.func9 (by kernel_rfl)
    (F9 (by kernel_rfl)) (by unfold Func.isWrapper;first|(rw[B1 (by decide+kernel)];kernel_rfl)|(rw[A7 (by decide+kernel)];exact⟨rfl,rfl⟩))
    (fun os started H enc _=>oK os started H enc)
theorem derivationSpoilt_said :Rows.DerivationSpoiltCardSaid:=
  Claim7.holds_tied_plain_at .later [] [.data,.data,.data,.data,.pinned] true (true,"21008691179fbc5e685a549e14076cf73832ee6f24894afe5decf201da899196") false qT (fun _ h=>by cases h) (by kernel_rfl) (fun _ h=>by cases h) derivationSpoilt_row_tie rfl ⟨rfl,rfl⟩ (by kernel_rfl) rfl
    (fun f fn hf hfn=>by
      obtain rfl:f=9:=F6 ((show Tryz.prog.funcNamed "admission/admissionlaw31.DerivationSpoilt" =some 9 by kernel_rfl).symm.trans hf)|>.symm;obtain rfl:fn=Tryz.f9:=(F6 (Tryz.func9.symm.trans hfn)).symm;exact⟨by kernel_rfl,fun j t ht=>by
        rw[Tryz.params9]at ht;have hm:t∈[22,3,3,9]:=by simpa using P2 ht
        have hall:([22,3,3,9].all fun u=>!Tryz.prog.wantsStandIn u)=true:=by kernel_rfl
        exact(show Tryz.prog.wantsStandIn t=false by simpa using G5.1 hall t hm)⟩)
    (by kernel_rfl)
#print axioms derivationSpoilt_said
end Go.Proofs.YthedbjfipmkpiaaGreatDoor
