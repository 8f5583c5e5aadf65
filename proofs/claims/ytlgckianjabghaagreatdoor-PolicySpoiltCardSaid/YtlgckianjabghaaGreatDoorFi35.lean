/- PolicySpoilt: for any tape of numbers and any two numbers the law returns true and leaves them as they were: of the encoded lines of a made policy of which one is left out, doubled, the last of those kept or changed in its last word, Decode answers as the reference's Decode does. The listed tables of the library are tied to the program's text by the card. By an AI agent. -/
import Derived.Lay
import Derived.SevenTiedAt
import Derived.Test.YtlgckianjabghaaGreatDoorHpUk
import Derived.Test.YtlgckianjabghaaGreatDoorCards
import Derived.Test.YtlgckianjabghaaGreatDoorTie
set_option maxRecDepth 100000
set_option maxHeartbeats 16000000
set_option linter.unusedSimpArgs false
set_option linter.unusedVariables false
set_option linter.defProp false
namespace Go.Proofs.YtlgckianjabghaaGreatDoor
open Go Go.Hl Go.Pl
instance :DecidableEq Nd:=fun a b=>decidable_of_iff _ (yJ a b)
theorem cH0 (a b:List Nd)(ha:a.length<2^40):cG Tryz.prog 28 [.slc (a.map Nd.cv),.slc (b.map Nd.cv)] (fun v=>v= .bool (decide (a=b))):=by
 refine FW Tryz.func28 ?_;refine R0 ?_;refine aC fun K hK=>?_;refine AU ?_;refine aF (b:=!((a.length:Int)==(b.length:Int))) rfl (fun hb=>?_) (fun hb=>?_)
 ·
  refine R0 ?_;refine aE (RT Tryz.results28 ?_);have hne:a≠b:=by rintro rfl;simp at hb
  exact aK [] (.bool false) rfl (by rw[M7 hne])
 have hlen0:(a.length:Int)=b.length:=by simpa using hb
 have hlen:a.length=b.length:=by omega
 clear hb;refine aJ ?_;refine T0 (hK _ _ _ ?_);clear hK K;refine aC fun K hK=>?_;refine R0 ?_;refine aM ?_;refine bN (α:={i:Nat//i≤a.length∧a.take i=b.take i}) (fun i=>(fin [(0,.c (.slc (a.map Nd.cv))),(1,.c (.slc (b.map Nd.cv))),(5,.c (.int .i64 i.1))],fob [])) 100 (fun i=>a.length-i.1) ⟨0,by omega,by simp⟩ (fF) ?_;rintro⟨i,hi,hpre⟩;refine aC fun K hK=>?_;refine AU ?_;refine aF (b:=decide ((i:Int)<a.length)) rfl (fun hb=>?_) (fun hb=>?_)
 ·
  have hlt:i<a.length:=by simpa using hb
  have hlt2:i<b.length:=by omega
  clear hb;refine aJ ?_;refine T0 (hK _ _ _ ?_);clear hK K;refine aC fun K hK=>?_;refine aM ?_;refine aC fun K hK=>QR ?_;have F:=aI @A0 (aI @A4 (aI hlt (aI (nM hlt) (aI hlt2 (aI (nM hlt2) @dC7)))));refine AU ?_;refine T2 (hK _ _ _ ?_);clear hK K;refine aF (b:=!bB5 a[i] b[i]) rfl (fun hb=>?_) (fun hb=>?_)
  ·
   refine R0 ?_;refine aE (RT Tryz.results28 ?_);have hne:a≠b:=by rintro rfl;simp[bN9]at hb
   exact aK [] (.bool false) rfl (by rw[M7 hne])
  refine aJ ?_;refine T0 (hK _ _ _ ?_);clear hK K;refine aL (by kernel_rfl) ?_;simp only[↓sP,sA,tyS,simprocAttr,cS ((i:Int)+1) (by omega)];have hab:a[i]=b[i]:=(yJ _ _).1 (by simpa using hb);refine⟨⟨i+1,hlt,by rw[B3 hlt,B3 hlt2,hpre,hab]⟩,fF,?_⟩;show a.length-(i+1)<a.length-i;omega
 refine bG (T3 ?_);clear hK K;refine AX (hK _ _ _ ?_);clear hK K;refine R0 ?_;refine aE (RT Tryz.results28 ?_);have hei:i=a.length:=by simp only[C6]at hb;omega
 subst hei;have hab:a=b:=by rw[E2]at hpre;rw[hpre,hlen,E2]
 exact aK [] (.bool true) rfl (by rw[O6 hab])
def aC0 (x y:Pr):Bool:=!(x.a==y.a)||(!(x.b==y.b)||(!(x.c==y.c)||((x.g !=y.g)||!decide (x.t=y.t))))
theorem aA0 (x y:Pr):aC0 x y=false↔x=y:=by
 obtain⟨x1,x2,x3,x4,x5⟩:=x;obtain⟨y1,y2,y3,y4,y5⟩:=y;simp[aC0,Pr.mk.injEq]
instance :DecidableEq Pr:=fun a b=>decidable_of_iff _ (aA0 a b)
def xA (x y:Po):Bool:=!(x.n==y.n)||((x.v !=y.v)||((x.r.length:Int) !=(y.r.length:Int)))
theorem bL9 {x y:Po}(h:xA x y=true):x≠y:=by
 rintro rfl;simp[xA]at h
theorem aZ2 {x y:Po}(h:xA x y=false)(h2:x.r=y.r):x=y:=by
 obtain⟨x1,x2,x3⟩:=x;obtain⟨y1,y2,y3⟩:=y;simp[xA]at h;simp at h2;simp[h,h2]
instance :DecidableEq Po:=fun a b=>if h:xA a b=true then .isFalse (bL9 h)else if h2:a.r=b.r then .isTrue (aZ2 (by simpa using h) h2)else .isFalse fun e=>h2 (by rw[e])
theorem cO9 (p q:Po)(hr:p.r.length<2^40)(ht: ∀r∈p.r,r.t.length<2^40):cG Tryz.prog 12 [p.cv,q.cv] (fun v=>v= .bool (decide (p=q))):=by
 refine FW Tryz.func12 ?_;refine R0 ?_;refine aC fun K hK=>?_;refine aC fun K hK=>?_;have key: ∀(b:Bool) fr ob nx,b=xA p q→Fits 0 fr ob (fin [(2,.ptr 0 0),(3,.ptr 4 0),(28,.c (.bool b))]) (fob [(0,.box 29 (.c p.cv)),(4,.box 29 (.c q.cv))]) 600→K fr ob nx:=by
  rintro b fr ob nx rfl hf;refine hK _ _ _ (bB hf ?_);clear hf hK K;refine aF (b:=xA p q) rfl (fun hb=>?_) (fun hb=>?_)
  · refine R0 ?_;refine aE (RT Tryz.results12 ?_);exact aK [] (.bool false) rfl (by rw[M7 (bL9 hb)])
  have hne:=hb;have hlen:p.r.length=q.r.length:=by
   simp[xA]at hb;omega
  clear hb;refine aJ ?_;refine T0 (hK _ _ _ ?_);clear hK K;refine aC fun K hK=>?_;refine R0 ?_;refine aM ?_;refine bN (α:={i:Nat//i≤p.r.length∧p.r.take i=q.r.take i}) (fun i=>(fin [(2,.ptr 0 0),(3,.ptr 4 0),(5,.c (.int .i64 i.1))],fob [(0,.box 29 (.c p.cv)),(4,.box 29 (.c q.cv))])) 1000 (fun i=>p.r.length-i.1) ⟨0,by omega,by simp⟩ (fF) ?_;rintro⟨i,hi,hpre⟩;refine aC fun K hK=>?_;refine AU ?_;refine aF (b:=decide ((i:Int)<p.r.length)) rfl (fun hb=>?_) (fun hb=>?_)
  ·
   have hlt:i<p.r.length:=by simpa using hb
   have hlt2:i<q.r.length:=by omega
   clear hb;refine aJ ?_;refine T0 (hK _ _ _ ?_);clear hK K;refine aC fun K hK=>?_;refine aM ?_;refine aC fun K hK=>DW [(0,[],[]),(1,[],[]),(2,[],[]),(3,[],[]),(4,[],[]),(5,[],[]),(6,[],[]),(7,[],[]),(8,[],[]),(9,[],[]),(10,[],[]),(11,[10],[]),(12,[],[5,6,7,8,9]),(13,[],[])] [0,1,0,7,15,0,32,0,224,480,0,0,3103,8191] ?_;have F:=aI @A0 (aI @A4 (aI hlt (aI (nM hlt) (aI hlt2 (nM hlt2)))));iterate 14 refine WF ?_
   refine T2 (hK _ _ _ ?_);clear hK K;refine aC fun K hK=>?_;have key: ∀(b:Bool) fr ob nx,b=aC0 p.r[i] q.r[i]→Fits 0 fr ob (fin [(2,.ptr 0 0),(3,.ptr 4 0),(5,.c (.int .i64 i)),(79,.c (.bool b))]) (fob [(0,.box 29 (.c p.cv)),(4,.box 29 (.c q.cv))]) 2000→K fr ob nx:=by
    rintro b fr ob nx rfl hf;refine hK _ _ _ (bB hf ?_);clear hf hK K;refine aF (b:=aC0 p.r[i] q.r[i]) rfl (fun hb=>?_) (fun hb=>?_)
    ·
     refine R0 ?_;refine aE (RT Tryz.results12 ?_);have hne:p≠q:=by
      rintro rfl;rw[(aA0 _ _).2 rfl]at hb;cases hb
     exact aK [] (.bool false) rfl (by rw[M7 hne])
    refine aJ ?_;refine T0 (hK _ _ _ ?_);clear hK K;refine aL (by kernel_rfl) ?_;simp only[↓sP,sA,tyS,simprocAttr,cS ((i:Int)+1) (by omega)];have hab:p.r[i]=q.r[i]:=(aA0 _ _).1 hb;refine⟨⟨i+1,hlt,by rw[B3 hlt,B3 hlt2,hpre,hab]⟩,fF,?_⟩;show p.r.length-(i+1)<p.r.length-i;omega
   refine Rg ?_;refine AU ?_;refine aG 50 rfl (fun h7_50=>?_) (fun h7_50=>?_)
   · have F:=h7_50;refine AU ?_;refine T4 ?_;exact key true _ _ _ (by simp only[aC0,h7_50,D8,D7,B4,A9]) (fF)
   have F:=h7_50;refine AU ?_;refine aG 56 rfl (fun h7_56=>?_) (fun h7_56=>?_)
   · have F:=aI h7_50 h7_56;refine AU ?_;refine T4 ?_;exact key true _ _ _ (by simp only[aC0,h7_50,h7_56,D8,D7,B4,A9]) (fF)
   have F:=aI h7_50 h7_56;refine AU ?_;refine aG 63 rfl (fun h7_63=>?_) (fun h7_63=>?_)
   · have F:=aI h7_50 (aI h7_56 h7_63);refine AU ?_;refine T4 ?_;exact key true _ _ _ (by simp only[aC0,h7_50,h7_56,h7_63,D8,D7,B4,A9]) (fF)
   have F:=aI h7_50 (aI h7_56 h7_63);refine AU ?_;refine aG 70 rfl (fun h7_70=>?_) (fun h7_70=>?_)
   · have F:=aI h7_50 (aI h7_56 (aI h7_63 h7_70));refine AU ?_;refine T4 ?_;exact key true _ _ _ (by simp only[aC0,h7_50,h7_56,h7_63,h7_70,D8,D7,B4,A9]) (fF)
   have F:=aI h7_50 (aI h7_56 (aI h7_63 h7_70));refine AU ?_;refine SCF (cH0 p.r[i].t q.r[i].t (ht _ (C0 hlt))) ?_;refine AU ?_;refine aG 77 rfl (fun h7_77=>?_) (fun h7_77=>?_)
   · simp only[h7_77];refine T4 ?_;exact key false _ _ _ (by simp only[aC0,h7_50,h7_56,h7_63,h7_70,h7_77,D8,D7,B4,A9]) (fF)
   simp only[h7_77];refine T4 ?_;exact key true _ _ _ (by simp only[aC0,h7_50,h7_56,h7_63,h7_70,h7_77,D8,D7,B4,A9]) (fF)
  refine bG (T3 ?_);clear hK K;refine AX (hK _ _ _ ?_);clear hK K;refine R0 ?_;refine aE (RT Tryz.results12 ?_);have hei:i=p.r.length:=by simp only[C6]at hb;omega
  subst hei;have hab:p.r=q.r:=by rw[E2]at hpre;rw[hpre,hlen,E2]
  exact aK [] (.bool true) rfl (by rw[O6 (aZ2 hne hab)])
 refine Rg ?_;refine AU ?_;refine aG 12 rfl (fun h1_12=>?_) (fun h1_12=>?_)
 · have F:=h1_12;refine AU ?_;refine T4 ?_;exact key true _ _ _ (by simp only[xA,h1_12,B4,A9]) (fF)
 have F:=h1_12;refine AU ?_;refine aG 18 rfl (fun h1_18=>?_) (fun h1_18=>?_)
 · have F:=aI h1_12 h1_18;refine AU ?_;refine T4 ?_;exact key true _ _ _ (by simp only[xA,h1_12,h1_18,B4,A9]) (fF)
 have F:=aI h1_12 h1_18;refine AU ?_;refine aG 27 rfl (fun h1_27=>?_) (fun h1_27=>?_)
 · simp only[h1_27];refine T4 ?_;exact key true _ _ _ (by simp only[xA,h1_12,h1_18,h1_27,B4,A9]) (fF)
 simp only[h1_27];refine T4 ?_;exact key false _ _ _ (by simp only[xA,h1_12,h1_18,h1_27,B4,A9]) (fF)
theorem aO7 (n:Int):cG Tryz.prog 29 [.int .i64 n] (fun v=>v=(aW1 n).cv):=by
 refine FW Tryz.func29 ?_;refine AU ?_;refine aE (RT Tryz.results29 ?_);exact aK [] (aW1 n).cv rfl rfl
theorem cH1 :PoSz awP:=⟨by decide,by decide,by decide,by decide⟩
theorem cH2 : ∀n∈awT,n.q.t.length<2^63:=by decide
theorem cH3 :qU awP=0:=by decide+kernel
theorem cV3 :(mI awP).length<2^40:=by decide+kernel
theorem cH4 :nQ Tryz.prog 13 tabs [] (fun v=>v= .bool true):=by
 refine cA (args:=[]) Tryz.func13 rfl (by kernel_rfl) (gT tabs []) (C4 rfl) ?_;unfold fX;obtain⟨aw1,aw2,aw3⟩:=bQ6 cH3;refine R0 ?_;refine aC fun K hK=>aZ (by kernel_rfl) ?_;simp only[sR,simprocAttr];refine SG0 ?_;refine bU (g:=none) rfl rfl fun K' hK'=>T5 ?_;refine C1 (aO7 1) ?_;rintro u rfl;refine AX (hK' _ _ ?_);clear hK' K';refine bU (g:=none) rfl rfl fun K' hK'=>T5 ?_;refine C1 (aO7 2) ?_;rintro u rfl;refine AX (hK' _ _ ?_);clear hK' K';refine bU (g:=none) rfl rfl fun K' hK'=>T5 ?_;refine C1 (aO7 3) ?_;rintro u rfl;refine AX (hK' _ _ ?_);clear hK' K';refine cU (g:=none) 21 rfl rfl fun K' hK'=>?_;simp only[fI,iM,sH,↓sP,sA,tyS,simprocAttr];repeat refine AI ?_
 refine cK (by first|rfl|simp) ?_;try simp only[sH,↓sP,sA,tyS,simprocAttr]
 refine AX (hK' _ _ ?_);clear hK' K';refine SG0 ?_;refine T2 (hK _ _ _ ?_);clear hK K;refine aC fun K hK=>aZ (by kernel_rfl) ?_;simp only[sR,simprocAttr];iterate 2 refine SG0 ?_
 refine cU (g:=none) 37 rfl rfl fun K' hK'=>?_;simp only[fI,iM,sH,↓sP,sA,tyS,simprocAttr];repeat refine AI ?_
 refine cK (by first|rfl|simp) ?_;try simp only[sH,↓sP,sA,tyS,simprocAttr]
 refine AX (hK' _ _ ?_);clear hK' K';iterate 3 refine SG0 ?_
 refine T2 (hK _ _ _ ?_);clear hK K;refine aC fun K hK=>Rg ?_;refine S0 ?_;refine HS rfl rfl fun K' hK'=>T5 ?_;refine wI (args:=[_]) 0 (bL4 awP cH1) rfl (by simp) ⟨rfl,rfl,rfl,rfl⟩ ?_;rintro u v ⟨rfl,rfl⟩;rw[cH3];refine AX (hK' _ _ ?_);clear hK' K';refine AU ?_;refine T2 (hK _ _ _ ?_);clear hK K;refine aC fun K hK=>Rg ?_;have F:=@dE;refine SF ?_;refine HS rfl rfl fun K' hK'=>T6 ?_;refine wQ (args:=[_]) 0 (bL6 (mI awP) cV3) rfl (by simp) ⟨rfl,rfl,rfl,rfl⟩ ?_;rintro u v x ⟨rfl,rfl,rfl⟩;rw[aw1,aw2,aw3];refine AX (hK' _ _ ?_);clear hK' K';refine AU ?_;refine T2 (hK _ _ _ ?_);clear hK K;refine aC fun K hK=>aZ (by kernel_rfl) ?_;simp only[sR,simprocAttr];have F:=aI @A2.{0,0} (aI @nA (aI @tP (show awP.r.length=1 from rfl)));refine SGF ?_;refine bU (g:=none) rfl rfl fun K' hK'=>T6 ?_;refine C1 (xI awT cH2) ?_;rintro u rfl;rw[cT5];refine AX (hK' _ _ ?_);clear hK' K';iterate 2 refine SGF ?_
 refine bU (g:=some (30,true)) rfl rfl fun K' hK'=>T6 ?_;refine C1 (vL awP cH1) ?_;rintro u rfl;rw[cT6];refine AX (hK' _ _ ?_);clear hK' K';iterate 17 refine SGF ?_
 refine cU (g:=some (48,true)) 209 rfl rfl fun K' hK'=>?_;simp only[fI,iM,sH,↓sP,sA,tyS,simprocAttr,A2,nA,tP,(show awP.r.length=1 from rfl)];repeat refine AI ?_
 refine cK (by first|rfl|simp) ?_;try simp only[sH,↓sP,sA,tyS,simprocAttr,A2,nA,tP,(show awP.r.length=1 from rfl)]
 refine AX (hK' _ _ ?_);clear hK' K';refine bU (g:=some (48,true)) rfl rfl fun K' hK'=>T6 ?_;refine C2 (bL0 awT cH2 [true,false,true] (by decide)) ?_;rintro u rfl;rw[cA8];refine AX (hK' _ _ ?_);clear hK' K';iterate 3 refine SGF ?_
 refine cU (g:=some (53,true)) 229 rfl rfl fun K' hK'=>?_;simp only[fI,iM,sH,↓sP,sA,tyS,simprocAttr,A2,nA,tP,(show awP.r.length=1 from rfl)];repeat refine AI ?_
 refine cK (by first|rfl|simp) ?_;try simp only[sH,↓sP,sA,tyS,simprocAttr,A2,nA,tP,(show awP.r.length=1 from rfl)]
 refine AX (hK' _ _ ?_);clear hK' K';refine bU (g:=some (53,true)) rfl rfl fun K' hK'=>T6 ?_;refine C2 (bL0 awT cH2 [true] (by decide)) ?_;rintro u rfl;rw[cA9];refine AX (hK' _ _ ?_);clear hK' K';iterate 4 refine SGF ?_
 refine bU (g:=some (59,true)) rfl rfl fun K' hK'=>T6 ?_;refine C3 (cO0 awP cH1 [112,114,111,100,47,101,117] [119,101,98]) ?_;rintro u rfl;rw[cT7];refine AX (hK' _ _ ?_);clear hK' K';iterate 4 refine SGF ?_
 refine bU (g:=some (64,true)) rfl rfl fun K' hK'=>T6 ?_;refine C1 (aH3 awT cH2) ?_;rintro u rfl;refine AX (hK' _ _ ?_);clear hK' K';iterate 5 refine SGF ?_
 refine bU (g:=some (70,true)) rfl rfl fun K' hK'=>T6 ?_;refine C2 (aX2 awT cH2 0) ?_;rintro u rfl;refine AX (hK' _ _ ?_);clear hK' K';iterate 4 refine SGF ?_
 refine T2 (hK _ _ _ ?_);clear hK K;refine aE (RT Tryz.results13 ?_);exact eX [] (.bool true) rfl rfl (by simp) rfl
end Go.Proofs.YtlgckianjabghaaGreatDoor
namespace Go.Pl
open Go Go.Hl
variable {ls:List (List aH)}
theorem cP0 (h: ∀l∈ls,fT l)(hl:ls.length≤174):gL ls=0∧(lK ls).length≤262144:=by
 have h1: ∀l∈ls,okL l=true:=fun l hx=>by
  obtain⟨a,b,c⟩:=h l hx;rw[gR];exact⟨fun e=>by rw[e]at a;simp at a,by omega,fun w hw=>by have:=c w hw;omega⟩
 have h2:=rR fun l hx=>(h l hx).2;have h3:gL ls=0:=by rw[nK (by omega) h1,A7 (by omega)]
 exact⟨h3,by rw[qD h3];omega⟩
theorem cH5 {l:List aH}(h:fT l)(j:Nat):fT (l.set j [120]):=by
 obtain⟨a,b,c⟩:=h;refine⟨by simpa using a,by simpa using b,fun w hw=>?_⟩;rcases K4 hw with hw|rfl
 · exact c w hw
 · decide
theorem bM0 (h: ∀l∈ls,fT l)(k:Nat):(∀l∈ls.take k++ls.drop (k+1),fT l)∧(ls.take k++ls.drop (k+1)).length≤ls.length:=by
 refine⟨fun l hl=>?_,by simp;omega⟩;rcases F4.1 hl with hl|hl
 · exact h l (H5 hl)
 · exact h l (G1 hl)
variable {k:Nat}
theorem bM1 (h: ∀l∈ls,fT l)(hk:k<ls.length):(∀l∈ls.take k++[ls[k]]++ls.drop k,fT l)∧(ls.take k++[ls[k]]++ls.drop k).length≤ls.length+1:=by
 refine⟨fun l hl=>?_,by simp;omega⟩;rcases F4.1 hl with hl|hl
 ·
  rcases F4.1 hl with hl|hl
  · exact h l (H5 hl)
  · rw[G0.1 hl];exact h _ (C0 hk)
 · exact h l (G1 hl)
theorem aZ3 (h: ∀l∈ls,fT l)(k:Nat):(∀l∈ls.take k,fT l)∧(ls.take k).length≤ls.length:=
 ⟨fun l hl=>h l (H5 hl),by simp;omega⟩
theorem cQ6 (h: ∀l∈ls,fT l)(hk:k<ls.length)(j:Nat):(∀l∈ls.set k (ls[k].set j [120]),fT l)∧(ls.set k (ls[k].set j [120])).length≤ls.length:=by
 refine⟨fun l hl=>?_,by simp⟩;rcases K4 hl with hl|rfl
 · exact h l hl
 · exact cH5 (h _ (C0 hk)) j
theorem cV4 (b:aH):(dpO b).r.length<2^40∧ ∀r∈(dpO b).r,r.t.length<2^40:=by
 have key: ∀p:Po,fA p=true→p.r.length<2^40∧ ∀r∈p.r,r.t.length<2^40:=fun p hp=>by
  obtain⟨_,h2,_,h4⟩:=qL hp;exact⟨by omega,fun r hr=>by have:=(jC (h4 r hr)).2.1.len;omega⟩
 have h0:po0.r.length<2^40∧ ∀r∈po0.r,r.t.length<2^40:=⟨by decide,fun r hr=>by cases hr⟩;unfold dpO;split
 ·
  rename_i he;unfold dpE at he;split at he
  · omega
  ·
   revert he
   cases h:(rdP (decO b)).1 with
   |none=>intro he;cases he
   |some p=>
    simp only[E0];split
    · intro _;exact key p (by assumption)
    · intro he;cases he
 · exact h0
end Go.Pl
namespace Go.Proofs.YtlgckianjabghaaGreatDoor
open Go Go.Hl Go.Pl
theorem bM2 : ∀l:List (List aH),HV.toCL (l.map fun l=>HV.c (lsC l))=some (l.map lsC)
 |[]=>rfl
 |x::l=>by rw[D0,HV.toCL,bM2 l];rfl
variable {w:List aH}{ls:List (List aH)}{ob:Ob}
theorem cH6 {kk N:Nat}(h:ob N=some (.row 9 1 (w.map .str)))(hk:kk<ls.length)(hl:w.length=(ls.getD kk []).length):HV.closeL ob [N] (exK ls kk N)=(ls.set kk w).map fun l=>HV.c (lsC l):=by
 rw[lX,exK,N4,P7,N4];congr 1
 · apply N7;intro l _;simp[lsC,denilL_str]
 simp only[HV.close,h,A2,hl,F7];rw[B6 (by simp)];rfl
theorem aZ4 :dG=u8:=rfl
theorem aA1 (l:List (List aH)):(∀v∈l.map lsC,v.cells=1)=True:=eq_true fun v h=>by obtain⟨x,_,rfl⟩:=L3.1 h;rfl
theorem uC {n:Nat}{code:Code}{Q:Exit→Fr→Ob→Nat→Prop}{kk nx:Nat}{fr:Fr}(hk:kk<ls.length)(hl:w.length=(ls.getD kk []).length)
  (hf:Fits 1 fr ob (fin [(9,.own 45 ls.length),(11,.c (.int .i64 kk))]) (fob [(0,.tab tabs),(45,.hrow 37 1 (exK ls kk 46)),(46,.row 9 1 (w.map .str))]) 5000) (h:Hw Tryz.prog n 1 code Q (fin [(9,.c (.slc ((ls.set kk w).map lsC))),(11,.c (.int .i64 kk))]) (fob [(0,.tab tabs)]) 6000):Hw Tryz.prog n 1 code Q fr ob nx:=by
 refine bB hf (cM [46] (aK4 45 ((ls.set kk w).map lsC) rfl (by rw[cH6 (w:=w) rfl hk hl];exact bM2 _) (cM [45] (bB ?_ h))));exact fG (by simp[aR,A2,M6])
theorem bF6 (L:List Int)(i how:Int):nQ Tryz.prog 3 tabs [.slc (L.map (.int .i64)),.int .i64 i,.int .i64 how] (fun v=>v= .bool true):=by
 refine cA (args:=[.c (.slc (L.map (.int .i64))),.c (.int .i64 i),.c (.int .i64 how)]) Tryz.func3 rfl (by kernel_rfl) (gT tabs [.slc (L.map (.int .i64)),.int .i64 i,.int .i64 how]) (C4 rfl) ?_;unfold fX;refine R0 ?_;refine aC fun K hK=>Rg ?_;have F:=@denilL_int;refine SF ?_;refine HS rfl rfl fun K' hK'=>T6 ?_;refine eG [] (cM3 L 200) rfl trivial (by simp) (by simp) ⟨rfl,rfl,rfl,rfl⟩ (by simp[dO]) (by simp) ?_;rintro r os' ⟨rfl,rfl⟩;rw[cG2,bT8];refine AX (hK' _ _ ?_);clear hK' K';refine HS rfl rfl fun K' hK'=>T6 ?_;refine cC (args:=[_]) (bF5 (L.take 200) 0 1 (by omega)) rfl (by simp) ⟨rfl,rfl,rfl,rfl⟩ ?_;rintro u v' ⟨rs,a',rfl,rfl,hrs,ha'⟩;obtain⟨p,hpd⟩: ∃p:Po,p=⟨[112],1,rs⟩:=⟨_,rfl⟩;have hsm:pF p:=by rw[hpd];exact hrs.fin (by omega) (by omega)
 have hp:PoSz p:=bL8 hsm.1;obtain⟨e1,e2,e3,e4⟩:=cO5 hsm;obtain⟨h3,h4⟩:=aM7 hsm;have hpos:1≤(jM p).length:=by simp[jM]
 rw[←hpd];clear hpd;refine AX (hK' _ _ ?_);clear hK' K';refine HS rfl rfl fun K' hK'=>T6 ?_;refine D1 (cO8 p hp) ?_;rintro u v ⟨rfl,rfl⟩;rw[e1,aZ4];refine AX (hK' _ _ ?_);clear hK' K';refine AU ?_;refine T2 (hK _ _ _ ?_);clear hK K;obtain⟨ls,hls⟩: ∃ls,ls=jM p:=⟨_,rfl⟩;rw[←hls]at h3 h4 hpos e4;have hwi:=cU1 (n:=i) (k:=(ls.length:Int)) (by omega);obtain⟨kk,hkk⟩: ∃kk:Nat,wiN i ls.length=kk:=⟨(wiN i ls.length).toNat,by omega⟩;have hkl:kk<ls.length:=by omega
 clear hls;refine aC fun K hK=>Rg ?_;have F:=@denilL_u8;refine SF ?_;refine HS rfl rfl fun K' hK'=>T6 ?_;refine eG [] (cD3 (mI p) (by omega) e3 kk (by rw[e4];exact hkl)) rfl trivial (by simp) (by simp) ⟨rfl,rfl,rfl,rfl⟩ (by simp[dO]) (by simp) ?_;rintro r os' ⟨rfl,rfl⟩;rw[e4];simp only[osK,HV.ren,HV.renL,jG,HO.ren,tX,F3,show sub [] 45 0=45 from rfl,show sub [] 45 1=46 from rfl];refine AX (hK' _ _ ?_);clear hK' K';refine AU ?_;refine T2 (hK _ _ _ ?_);clear hK K;refine aC fun K hK=>?_;refine RS ?_;have F:=show((0:Int) !=0)=false from rfl
 refine AU ?_;refine CF rfl ?_;refine aJ ?_;refine T0 (hK _ _ _ ?_);clear hK K;refine aC fun K hK=>aZ (by kernel_rfl) ?_;simp only[sR,simprocAttr];have F:=@gW;iterate 2 refine SGF ?_
 refine aX (g:=none) rfl rfl fun K' hK'=>?_;simp only[sN,↓hopH.eq_def,sH,↓sP,sA,tyS,simprocAttr,gW];refine AX (hK' _ _ ?_);clear hK' K';refine bU (g:=none) rfl rfl fun K' hK'=>T6 ?_;refine C2 (aX4 i ls.length (by omega) (by omega)) ?_;rintro u rfl;rw[hkk];refine AX (hK' _ _ ?_);clear hK' K';refine SGF ?_;refine T2 (hK _ _ _ ?_);clear hK K;refine aC fun K hK=>?_;have key: ∀(ls':List (List aH)) fr ob nx,(∀l∈ls',fT l)→ls'.length≤171→(∀n code Q,Hw Tryz.prog n 1 code Q (fin [(9,.c (.slc (ls'.map lsC)))]) (fob [(0,.tab tabs)]) 6000→Hw Tryz.prog n 1 code Q fr ob nx)→K fr ob nx:=by
  rintro ls' fr ob nx hk1 hk2 hE;refine hK _ _ _ (hE _ _ _ ?_);clear hE hK K;obtain⟨g1,g2⟩:=cP0 hk1 (by omega);refine aC fun K hK=>Rg ?_;have F:=@aR;refine SF ?_;refine HS rfl rfl fun K' hK'=>T6 ?_;refine D1 (aI6 ls' (by omega) (fun l hl=>by have:=(hk1 l hl).2.1;omega)) ?_;rintro u v ⟨rfl,rfl⟩;rw[g1,aZ4];refine AX (hK' _ _ ?_);clear hK' K';refine AU ?_;refine T2 (hK _ _ _ ?_);clear hK K;obtain⟨c,hc⟩: ∃c,c=lK ls':=⟨_,rfl⟩;rw[←hc]at g2⊢;obtain⟨hs1,hs2⟩:=cV4 c;refine aC fun K hK=>Rg ?_;have F:=@denilL_u8;refine SF ?_;refine HS rfl rfl fun K' hK'=>T6 ?_;refine wQ (args:=[_]) 0 (bL6 c (by omega)) rfl (by simp) ⟨rfl,rfl,rfl,rfl⟩ ?_;rintro u v x ⟨rfl,rfl,rfl⟩;refine AX (hK' _ _ ?_);clear hK' K';refine AU ?_;refine T2 (hK _ _ _ ?_);clear hK K;refine aC fun K hK=>Rg ?_;refine SF ?_;refine HS rfl rfl fun K' hK'=>T6 ?_;refine nN (args:=[_]) (cN3 c (by omega)) ⟨rfl,rfl,rfl,rfl⟩ ?_;rintro u v x ⟨rfl,rfl,rfl⟩;refine AX (hK' _ _ ?_);clear hK' K';refine AU ?_;refine T2 (hK _ _ _ ?_);clear hK K;refine aC fun K hK=>Rg ?_;have F:=@L9.{0};refine AU ?_;refine aW (g:=some (116,true)) rfl rfl fun K' hK'=>T6 ?_;refine C2 (cO9 (dpO c) (dpO c) hs1 hs2) ?_;rintro u rfl;rw[O6 (rfl:dpO c=dpO c)];refine AX (hK' _ _ ?_);clear hK' K';refine AU ?_;refine aW (g:=some (121,true)) rfl rfl fun K' hK'=>T6 ?_;refine gM (args:=[]) 0 cH4 rfl (by simp) ⟨rfl,rfl,rfl,rfl⟩ ?_;rintro u rfl;refine AX (hK' _ _ ?_);clear hK' K';refine AU ?_;refine T2 (hK _ _ _ ?_);clear hK K;refine aE (RT Tryz.results3 ?_);exact eX [] (.bool true) rfl rfl (by simp) rfl
 refine AU ?_;refine SR (bE1 how 4 (by omega) (by omega)) ?_;rintro u ⟨x,hx4,rfl⟩;refine RE ?_;refine aM ?_;have hset:ls.set kk (ls.getD kk [])=ls:=by simp[hkl]
 have hw1:IntKind.i64.wrap ((kk:Int)+1)=((kk+1:Nat):Int):=by rw[A8 _ (by omega)];rfl
 have hk1:kk+1≤ls.length:=hkl;have ht1:(ls.drop (kk+1)).take (ls.length-(kk+1))=ls.drop (kk+1):=E6 (by simp);have ht2:(ls.drop kk).take (ls.length-kk)=ls.drop kk:=E6 (by simp);have hgd:ls.getD kk []=ls[kk]:=by simp[hkl]
 refine R0 ?_;refine aF (b:=_) rfl (fun hb=>?_) (fun hb=>?_)
 ·
  refine uC (w:=ls.getD kk []) hkl rfl (fG (by simp[fU])) ?_;rw[hset];refine DW [(0,[],[]),(1,[],[]),(2,[],[]),(4,[],[]),(5,[],[]),(6,[],[]),(7,[],[]),(3,[],[4,5,6,7]),(8,[],[]),(9,[],[])] [0,0,3,7,0,0,32,112,255,511] ?_;iterate 10 refine W0 ?_ (e:=fun _ h_=>by simp only[sH,↓sP,sA,tyS,simprocAttr,aA1,dB,nX,hw1,hk1,A2,A0,A4,H2,S5 hkl,hkl,A5,G8,L7,F9,←List.map_take,←List.map_drop,←List.map_append,aR,E2];exact AX h_)
  refine T4 ?_;exact key (ls.take kk++ls.drop (kk+1)) _ _ _ (bM0 h3 kk).1 (by have:=(bM0 h3 kk).2;omega) fun N code Q h=>cM [6012] (bB (fG (by simp[aR,A2,C5,A3,←List.map_take,←List.map_drop,ht1])) h)
 refine R0 ?_;refine aF (b:=_) rfl (fun hb=>?_) (fun hb=>?_)
 ·
  refine uC (w:=ls.getD kk []) hkl rfl (fG (by simp[fU])) ?_;rw[hset];refine DW [(0,[],[]),(1,[],[]),(2,[],[]),(4,[],[]),(5,[],[]),(6,[],[]),(7,[],[]),(8,[],[]),(10,[8],[]),(11,[8],[]),(12,[8],[]),(3,[8],[4,5,6,7,8,10,11,12]),(9,[],[10,11,12]),(13,[],[]),(14,[],[])] [0,0,3,7,0,0,48,112,240,511,0,0,3072,8191,16383] ?_;iterate 15 refine W0 ?_ (e:=fun _ h_=>by simp only[sH,↓sP,sA,tyS,simprocAttr,aA1,dB,nX,A2,A0,A4,H2,S5 hkl,hkl,A5,G8,L7,F9,←List.map_take,←List.map_drop,←List.map_append,aR,E2,aV hkl];exact AX h_)
  refine T4 ?_;have ht3:List.map lsC (ls.take (kk+1))=List.map lsC (ls.take kk)++[lsC ls[kk]]:=by
   rw[B3 hkl,C5];rfl
  exact key (ls.take kk++[ls[kk]]++ls.drop kk) _ _ _ (bM1 h3 hkl).1 (by have:=(bM1 h3 hkl).2;omega) fun N code Q h=>cM [6012] (bB (fG (by simp[aR,A2,C5,A3,←List.map_take,←List.map_drop,ht2,ht3])) h)
 refine R0 ?_;refine aF (b:=_) rfl (fun hb=>?_) (fun hb=>?_)
 ·
  refine uC (w:=ls.getD kk []) hkl rfl (fG (by simp[fU])) ?_;rw[hset];refine Rg ?_;iterate 4 refine S0 ?_ (e:=fun _ h_=>by simp only[sH,↓sP,sA,tyS,simprocAttr,aA1,dB,nX,A2,A0,A4,H2,S5 hkl,hkl,A5,G8,L7,F9,←List.map_take,←List.map_drop,←List.map_append,aR,E2];exact AX h_)
  refine T4 ?_;exact key (ls.take kk) _ _ _ (aZ3 h3 kk).1 (by have:=(aZ3 h3 kk).2;omega) fun N code Q h=>cM [6012] (bB (fG (by simp[aR,A2,C5,A3,←List.map_take,←List.map_drop,ht1])) h)
 obtain⟨w,hw⟩: ∃w,w=ls.getD kk []:=⟨_,rfl⟩;have hw0:1≤w.length∧w.length≤2^40:=by have:=h3 ls[kk] (C0 hkl);rw[hw,hgd];obtain⟨a,b,-⟩:=this;omega
 have hwl:IntKind.i64.wrap ((w.length:Int)-1)=((w.length-1:Nat):Int):=by rw[A8 _ (by omega)];omega
 have hwl2:w.length-1<w.length:=by omega
 refine cP mixed [(0,[],[]),(1,[],[]),(2,[],[]),(3,[],[]),(4,[],[]),(5,[],[]),(6,[],[]),(7,[],[]),(8,[],[]),(9,[],[]),(10,[],[]),(11,[],[])] [0,0,3,7,0,0,48,112,240,496,1023,2047] (by kernel_rfl) (by kernel_rfl) (by kernel_rfl) (by kernel_rfl) rfl (by kernel_rfl) ?_;iterate 2 refine WG0 ?_ (e:=fun _ h_=>by simp only[sH,↓sP,sA,tyS,simprocAttr,lW hkl,gW,hkl,←hw,hwl,hwl2,A0,A4,A5,A2,aV hwl2];exact AX h_)
 refine bF (g:=none) rfl rfl fun K' hK'=>?_;simp only[sN,↓hopH.eq_def,sH,↓sP,sA,tyS,simprocAttr,lW hkl,gW,hkl,←hw,hwl,hwl2,A0,A4,A5,A2,aV hwl2];refine AX (hK' _ _ ?_);clear hK' K';refine bF (g:=none) rfl rfl fun K' hK'=>?_;simp only[sN,↓hopH.eq_def,sH,↓sP,sA,tyS,simprocAttr,lW hkl,gW,hkl,←hw,hwl,hwl2,A0,A4,A5,A2,aV hwl2];refine AX (hK' _ _ ?_);clear hK' K';iterate 2 refine WG0 ?_ (e:=fun _ h_=>by simp only[sH,↓sP,sA,tyS,simprocAttr,lW hkl,gW,hkl,←hw,hwl,hwl2,A0,A4,A5,A2,aV hwl2];exact AX h_)
 refine bF (g:=none) rfl rfl fun K' hK'=>?_;simp only[sN,↓hopH.eq_def,sH,↓sP,sA,tyS,simprocAttr,lW hkl,gW,hkl,←hw,hwl,hwl2,A0,A4,A5,A2,aV hwl2];refine AX (hK' _ _ ?_);clear hK' K';refine bF (g:=none) rfl rfl fun K' hK'=>?_;simp only[sN,↓hopH.eq_def,sH,↓sP,sA,tyS,simprocAttr,lW hkl,gW,hkl,←hw,hwl,hwl2,A0,A4,A5,A2,aV hwl2];refine AX (hK' _ _ ?_);clear hK' K';iterate 4 refine WG0 ?_ (e:=fun _ h_=>by simp only[sH,↓sP,sA,tyS,simprocAttr,lW hkl,gW,hkl,←hw,hwl,hwl2,A0,A4,A5,A2,aV hwl2];exact AX h_)
 refine T4 ?_;rw[hgd]at hw;exact key (ls.set kk (ls[kk].set (w.length-1) [120])) _ _ _ (cQ6 h3 hkl _).1 (by have:=(cQ6 h3 hkl (w.length-1)).2;omega) fun N code Q h=>uC (w:=ls[kk].set (w.length-1) [120]) hkl (by simp[hkl]) (fG (by simp[fU,hw,N4,A2,M6])) (bB (fG (by simp)) h)
theorem aC1 {W:World}(h:laidMetH Tryz.prog Rows.policySpoiltRow.laid W):Lib.TabIs Tryz.prog W "internal/strconv.uint64pow10" .u64 Lib.pow10Tab:=by
  rw[MakeChecks.laidMetH_plain _ _ _ (by kernel_rfl)]at h;have h2:=laidMet.filter (fun x=>x.1== "internal/strconv.uint64pow10") h;have e:(Rows.policySpoiltRow.laid.filter fun x=>x.1== "internal/strconv.uint64pow10")=[("internal/strconv.uint64pow10",Lib.tabData .u64 Lib.pow10Tab)]:=by kernel_rfl
  rw[e]at h2;exact Lib.tabIs_of_head aO6 (by kernel_rfl) Tryz.underlying170 Tryz.underlying84 (by kernel_rfl) (by kernel_rfl) h2
theorem oB (H:Type)(enc:TypeId×Value→H)(W:World)(args:Array Value)(ds gs:List (DataW H))(before:List MemPlace)
    (hL:laidMetH Tryz.prog Rows.policySpoiltRow.laid W)
    (hval: ∀(j:Nat) t v,Tryz.f3.params[j]? =some t→args[j]? =some v→Value.okWide Tryz.prog W .any 0 t v)
    (hW:DataW.Whole enc Tryz.prog Tryz.f3.params.toList Rows.policySpoiltSpec.vars false W args.toList ds gs before):
    Calls Tryz.prog 3 args W fun e W'=> ∃v,e= .returned v∧Rows.policySpoiltSpec.post enc Tryz.prog Tryz.f3 false true false false W args v W':=by
  refine bO7 (mm:=6) (tb:=4) (tabs:=tabs) (by kernel_rfl) kids bD9 rfl (by kernel_rfl) Tryz.underlying4 ?_ ?_ ?_ ?_ (fun j t v h1 h2=>?_) hW
  · rw[Tryz.params3]
    intro H ds h
    match ds,h with
    |[c0,c1,c2],_=>exact⟨rfl,rfl,rfl⟩
  · rw[Tryz.params3]
    intro t ht;simp only[E9,I7,P1]at ht;rcases ht with rfl|rfl|rfl
    · exact⟨by kernel_rfl,R6 (by kernel_rfl)⟩
    · exact⟨by kernel_rfl,R6 (by kernel_rfl)⟩
    · exact⟨by kernel_rfl,R6 (by kernel_rfl)⟩
  · rw[Tryz.params3]
    intro cs hn hty
    match cs,hn,hty with
    |[c0,c1,c2],_,hty=>
      obtain⟨L,rfl,hw,hl⟩:=cL8 (hty 0 _ c0 rfl rfl);obtain⟨a,rfl,_⟩:=(hty 1 _ c1 rfl rfl).of_int Tryz.underlying3;obtain⟨w,rfl,_⟩:=(hty 2 _ c2 rfl rfl).of_int Tryz.underlying3;exact bF6 L a w
  · intro x hx
    simp only[tabs,E9,I7,P1]at hx;rcases hx with rfl
    · exact aB3 aO6 (aC1 hL)
  · exact hval j t v h1 h2
open Go.ChangeShapes Go.WideShapes Go.ChangeAt Go.RowKit in
set_option maxRecDepth 100000 in
theorem qW (os:Os)(started:os.Started)(H:Type)(enc:TypeId×Value→H):
    ReturnsInHanded {} Tryz.checked os 3 .any (fun w args=>(Rows.policySpoiltSpec.pre enc Tryz.prog Tryz.f3 [] false w args∧laidMetH Tryz.prog Rows.policySpoiltRow.laid w)∧sizedMet enc Tryz.prog Tryz.f3 (OpenSpec.ofChange Rows.policySpoiltSpec) false w args)
      (Rows.policySpoiltSpec.post enc Tryz.prog Tryz.f3 false true false false):=by
  refine returnsInHanded_of_change_and (C:=Tryz.checked) (X:=fun w _=>laidMetH Tryz.prog Rows.policySpoiltRow.laid w) (fun _ _ _ hh h=>h.of_heap hh) own started (by kernel_rfl) Tryz.func3
    (ChangeSpec.witness_shaped (enc:=enc) (C:=Tryz.checked) (os:=os) (X:=fun w _=>laidMetH Tryz.prog Rows.policySpoiltRow.laid w) false (World.laidAll Tryz.prog os Rows.policySpoiltRow.laid) #[.slice none 0 0,.int .i64 0,.int .i64 0] 8 (World.laidAll_os _ _ _)
      (World.shaped_of_ZipB (by kernel_rfl) (by kernel_rfl)) (by kernel_rfl) (by kernel_rfl) (by kernel_rfl)
      (by rw[MakeChecks.laidMetH_plain _ _ _ (by kernel_rfl)];exact laidMet_laidAll _ (by kernel_rfl) (by kernel_rfl))) ?_
  intro W base args ds gs before hval hW _ _ hL _;exact oB H enc W args ds gs before hL (fun j t v h1 h2=>(hval j t v h1 h2)) hW
theorem vN :Rows.PolicySpoiltSaid:=
  OpenClaim.holds_of_wide 3 Tryz.f3 rfl rfl rfl rfl rfl rfl rfl ⟨rfl,rfl,rfl,rfl,rfl⟩ rfl rfl rfl rfl rfl (by kernel_rfl) Tryz.func3 (by kernel_rfl)
    (R6 (by kernel_rfl)) (by unfold Func.isWrapper;first|(rw[B6 (by decide+kernel)];kernel_rfl)|(rw[A7 (by decide+kernel)];exact⟨rfl,rfl⟩))
    (fun os started H enc _=>qW os started H enc)
theorem policySpoilt_said :Rows.PolicySpoiltCardSaid:=
  Claim7.holds_tied_plain_at .later [] [.data,.data,.data,.data,.pinned] true (true,"f8aa04b56dbfa72e764284297d2b6aa11983429c6979b16b8885987e34fe8563") false vN (fun _ h=>by cases h) (by kernel_rfl) (fun _ h=>by cases h) policySpoilt_row_tie rfl ⟨rfl,rfl⟩ (by kernel_rfl) rfl
    (fun f fn hf hfn=>by
      obtain rfl:f=3:=P6 ((show Tryz.prog.funcNamed "admission/admissionlaw28.PolicySpoilt" =some 3 by kernel_rfl).symm.trans hf)|>.symm;obtain rfl:fn=Tryz.f3:=(P6 (Tryz.func3.symm.trans hfn)).symm;exact⟨by kernel_rfl,fun j t ht=>by
        rw[Tryz.params3]at ht;have hm:t∈[22,3,3]:=by simpa using P4 ht
        have hall:([22,3,3].all fun u=>!Tryz.prog.wantsStandIn u)=true:=by kernel_rfl
        exact(show Tryz.prog.wantsStandIn t=false by simpa using H6.1 hall t hm)⟩)
    (by kernel_rfl)
#print axioms policySpoilt_said
end Go.Proofs.YtlgckianjabghaaGreatDoor
