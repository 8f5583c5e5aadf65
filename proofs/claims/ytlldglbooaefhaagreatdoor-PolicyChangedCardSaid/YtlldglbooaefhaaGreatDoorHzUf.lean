/- Part of a proof: walks of functions of the program, by contracts, and the rules they use. By an AI agent. -/
import Derived.Test.YtlldglbooaefhaaGreatDoorPl28o
import Derived.Test.YtlldglbooaefhaaGreatDoorHzU1
import Derived.Test.YtlldglbooaefhaaGreatDoorHlTlaw
import Derived.Test.YtlldglbooaefhaaGreatDoorPl28k
import Derived.Test.YtlldglbooaefhaaGreatDoorPl03d
set_option linter.unusedSimpArgs false
set_option linter.unusedVariables false
set_option linter.defProp false
namespace Go.Pl
open Go Go.Hl
variable {n:Nd}
theorem aZ8 (h:bR n=true)(h1:n.k≠1)(h2:n.k≠2)(h3:n.k≠3):n.k=4:=by simp_all[bR,if_neg]
theorem aN8 {q:Rq}(h:dR q=true):(0≤q.n∧q.n≤1099511627776)∧(0≤q.m∧q.m≤1099511627776):=by
 unfold dR inB at h
 repeat' split at h
 all_goals first
  |cases h;done
  |(simp only[Bool.and_eq_true,decide_eq_true_eq,beq_iff_eq]at h;(try rw[fZ]at h);omega)
theorem aZ9 (h:bR n=true)(h1:n.k=1):dR n.q=true:=by simp_all[bR,if_pos,Bool.and_eq_true]
theorem bA0 (h:bR n=true)(h1:n.k=4):1≤n.n∧n.n≤60:=by
 unfold bR inB at h;grind
variable {i:Nat}{l:List Nd}
theorem xD (ht:IsTree l)(hi:i<l.length)(hk:l[i].k=1):aft l i=i+1:=by
 obtain⟨_,_,c3,_⟩:=dV (ht.node _ (List.getElem_mem hi));refine aT0 hi ?_;rw[List.drop_eq_getElem_cons hi];simp_all[skip,cU]
theorem rF (ht:IsTree l)(hi:i<l.length):dB l l[i].c.toNat (i+1)=aft l i:=by
 obtain⟨h1,h2,h3⟩:=gJ ht hi l[i].c.toNat (Nat.le_refl _);simp_all[iB,Nat.sub_self,cU,congrArg,List.length,Option.some.inj,List.length_drop]
theorem sX {l:List Nd}(ht:IsTree l): ∀(m:Nat) (i:Nat) (hi:i<l.length),l.length-i≤m→(eV l i).length≤2*(aft l i-i)∧ ∀k,k≤l[i].c.toNat→l[i].k≠1→(cY l i k).length≤2*(dB l k (i+1)-(i+1))
 |0,i,hi,hm=>by omega
 |m+1,i,hi,hm=>by
  have hkids: ∀k,k≤l[i].c.toNat→l[i].k≠1→(cY l i k).length≤2*(dB l k (i+1)-(i+1)):=by
   intro k;induction k with
   |zero=>grind[gW]
   |succ k ih=>
    intro hk hn;have h1:=ih (by omega) hn;have hlt:=lC ht hi (k:=k) (by omega);obtain⟨_,_,h3⟩:=gJ ht hi k (by omega);have h4:=(sX ht m (dB l k (i+1)) hlt (by omega)).1;grind[iB,mB,List.length_append,fM]
  refine⟨?_,hkids⟩;by_cases hk:l[i].k=1
  · grind[pM,xD]
  · have h1:=hkids _ (Nat.le_refl _) hk;obtain⟨_,_,h3⟩:=gJ ht hi _ (Nat.le_refl l[i].c.toNat);grind[rF,nW,List.length_cons,List.length_append,List.length_nil]
theorem tY (ht:IsTree l){k:Nat}(hi:i<l.length)(hk:k≤l[i].c.toNat)(hn:l[i].k≠1):(cY l i k).length≤2*(dB l k (i+1)-(i+1)):=(sX ht _ i hi (Nat.le_refl _)).2 k hk hn
theorem xE (ht:IsTree l)(hi:i<l.length):(eV l i).length≤2*(aft l i-i):=(sX ht _ i hi (Nat.le_refl _)).1
theorem aA6 : ∀(l:List Pr) (i:Nat),gK l=true→gK (l.take i)=true
 |[],i,h=>by grind
 |r::l,0,h=>rfl
 |r::l,i+1,h=>by
  simp only[gK,Bool.and_eq_true,Bool.not_eq_true']at h;simp only[List.take_succ_cons,gK,Bool.and_eq_true,Bool.not_eq_true'];refine⟨?_,aA6 l i h.2⟩;grind
def aU4 (l:List Pr)(r:Pr):Bool:=(l.map Pr.a).contains r.a||(!dG r.a||(!(eP r.b).isSome||(!(eP r.c).isSome||(!inB r.g 0 sC||!dK r.t))))
structure RlSt (l:List Pr)(i:Nat):Prop where
 le:i≤l.length
 all:(l.take i).all iL=true
 apart:gK (l.take i)=true
theorem RlSt.zero (l:List Pr):RlSt l 0:=⟨by omega,by simp,by simp[gK]⟩
theorem bA1 (l:List Pr)(r:Pr):aU4 l r=!(!(l.map Pr.a).contains r.a&&iL r):=by simp_all[aU4,iL,Pr.a,dG,eP,inB,sC,dK]
theorem RlSt.succ {l:List Pr}(h:RlSt l i)(hi:i<l.length)(hb:aU4 (l.take i) l[i]=false):RlSt l (i+1):=by
 rw[bA1]at hb;simp only[Bool.not_eq_false',Bool.and_eq_true]at hb;refine⟨hi,?_,?_⟩
 · rw[List.take_succ_eq_append_getElem hi,List.all_append,h.all,List.all_cons,hb.2];rfl
 · rw[List.take_succ_eq_append_getElem hi,nU,h.apart,hb.1];rfl
theorem aF7 {l:List Pr}(hi:i<l.length)(hb:aU4 (l.take i) l[i]=true):(l.all iL&&gK l)=false:=by
 rw[Bool.eq_false_iff];intro h;simp only[Bool.and_eq_true]at h;have h1:=aA6 l (i+1) h.2;rw[List.take_succ_eq_append_getElem hi,nU]at h1;simp_all[Bool.and_eq_true,List.all_eq_true,List.getElem_mem,bA1]
variable {p:Po}
theorem aF8 (h:(p.r.all iL&&gK p.r)=false):eU p=false:=by
 simp only[eU,h,Bool.and_false]
def nmD (l:List Pr):MD:=l.foldl (fun D r=>jV D r.a (.val (.bool true))) []
theorem bR7 (l:List Pr)(r:Pr):nmD (l++[r])=jV (nmD l) r.a (.val (.bool true)):=by simp[nmD,List.foldl_append]
theorem cJ8 (D:MD)(k j:aH)(h:k≠j)(m:MV):cL (jV D k m) j=cL D j:=by
 induction D with
 |nil=>simp[jV,cL,h]
 |cons x D ih=>
  grind[jV,cL]
theorem bR8 (s:aH): ∀(l:List Pr) (D:MD),cL (l.foldl (fun D r=>jV D r.a (.val (.bool true))) D) s=if(l.map Pr.a).contains s then some (.val (.bool true))else cL D s
 |[],D=>rfl
 |r::l,D=>by
  rw[List.foldl_cons,bR8 s l,List.map_cons,List.contains_cons];by_cases h:r.a=s;all_goals simp_all[cK,cJ8,Ne.symm,Bool.false_or]
theorem bA2 (s:aH)(l:List Pr):cL (nmD l) s=if(l.map Pr.a).contains s then some (.val (.bool true))else none:=bR8 s l []
def uH (p:Po):Bool:=!dG p.n||(!inB p.v 1 1099511627776||decide ((16:Int)<p.r.length))
def oA (c:Bool)(r:Pr):Bool:=c||(!dG r.a||(!(eP r.b).isSome||(!(eP r.c).isSome||(!inB r.g 0 1099511627776||!dK r.t))))
theorem aN9 (l:List Pr)(r:Pr):oA ((l.map Pr.a).contains r.a) r=aU4 l r:=by simp only[oA,aU4,fZ]
theorem aA7 (h:uH p=true):eU p=false:=by grind[uH,eU,fZ,dG,inB,decide]
theorem aO0 (h:uH p=false)(h2:RlSt p.r p.r.length):eU p=true:=by
 unfold uH at h;rw[eU,fZ];have h3:=h2.all;have h4:=h2.apart;grind
structure PoSz (p:Po):Prop where
 n:p.n.length<2^63
 r:p.r.length<2^40
 a: ∀r∈p.r,r.a.length<2^63
 t: ∀r∈p.r,∀n∈r.t,n.q.t.length<2^63
end Go.Pl
namespace Go.Proofs.YtlldglbooaefhaaGreatDoor
open Go Go.Hl Go.Pl
set_option maxRecDepth 10000
set_option maxHeartbeats 16000000
def aF9 (p:Po):Bool:=!dG p.n||(decide (p.v<1)||(decide ((1099511627776:Int)<p.v)||decide ((16:Int)<p.r.length)))
theorem bA3 (p:Po):aF9 p=uH p:=by
 have h1:decide (p.v<1)=!decide (1≤p.v):=by rw[←decide_not];exact decide_eq_decide.2 (by omega)
 have h2:decide ((1099511627776:Int)<p.v)=!decide (p.v≤1099511627776):=by rw[←decide_not];exact decide_eq_decide.2 (by omega)
 rw[aF9,uH,inB,h1,h2];cases dG p.n<;>cases decide (1≤p.v)<;>cases decide (p.v≤1099511627776)<;>rfl
def aG0 (r:Pr):Bool:=!dG r.a||(!(eP r.b).isSome||(!(eP r.c).isSome||(!inN r.g||!dK r.t)))
theorem aU5 (l:List Pr)(r:Pr):aU4 l r=((l.map Pr.a).contains r.a||aG0 r):=rfl
theorem aA8 (p:Po)(hp:PoSz p):cA Tryz.prog 30 [p.cv] (fun v=>v= .bool (eU p)):=by
 have hpn:=hp.n;have hpr:=hp.r;refine FW Tryz.func30 ?_;refine R0 ?_;refine aC fun K hK=>?_;refine aC fun K hK=>?_;have key: ∀(b:Bool) fr ob nx,b=aF9 p→Fits 0 fr ob (fin [(1,.ptr 0 0),(25,.c (.bool b))]) (fob [(0,.box 45 (.c p.cv))]) 600→K fr ob nx:=by
  rintro b fr ob nx rfl hf;refine hK _ _ _ (bF hf ?_);clear hf hK K;refine aG (b:=aF9 p) rfl (fun hb=>?_) (fun hb=>?_)
  · refine R0 ?_;refine aF (RT Tryz.results30 ?_);exact aJ [] (.bool false) rfl (by rw[aA7 (by rw[←bA3];exact hb)])
  refine aK ?_;refine T0 (hK _ _ _ ?_);clear hK K;refine aC fun K hK=>?_;refine R0 ?_;refine aM ?_;have hhead:=hb;rw[bA3]at hhead;clear hb;refine bI (α:={i:Nat//RlSt p.r i}) (fun i=>(fin [(1,.ptr 0 0),(3,.c (.int .i64 i.1))],fob [(0,.box 45 (.c p.cv))])) 2000 (fun i=>p.r.length-i.1) ⟨0,RlSt.zero p.r⟩ (fF) ?_;rintro⟨i,hΦ⟩;refine aC fun K hK=>?_;refine aC fun K hK=>Rg ?_;iterate 5 refine S0 ?_
  refine T2 (hK _ _ _ ?_);clear hK K;refine aG (b:=decide ((i:Int)<p.r.length)) rfl (fun hb=>?_) (fun hb=>?_)
  ·
   have hlt:i<p.r.length:=by simpa using hb
   clear hb;obtain⟨r,hr⟩: ∃r,r=p.r[i]:=⟨_,rfl⟩;have hmem:r∈p.r:=by rw[hr];exact List.getElem_mem hlt
   have hra:=hp.a r hmem;have hrt:=hp.t r hmem;refine aK ?_;refine T0 (hK _ _ _ ?_);clear hK K;refine aC fun K hK=>?_;refine aM ?_;refine aC fun K hK=>Rg ?_;iterate 7 refine S0 ?_ (e:=fun _ h_=>by simp only[sH,↓sP,sA,tyS,simprocAttr,Int.natCast_nonneg,Int.ofNat_lt,hlt,bH hlt,←hr];exact AX h_)
   refine T2 (hK _ _ _ ?_);clear hK K;refine aC fun K hK=>?_;refine aC fun K hK=>?_;have key: ∀(b:Bool) fr ob nx,b=aG0 r→Fits 0 fr ob (fin [(1,.ptr 0 0),(3,.c (.int .i64 i)),(4,.ptr 2040 0),(65,.c (.bool b))]) (fob [(0,.box 45 (.c p.cv)),(2040,.box 54 (.c r.cv))]) 3000→K fr ob nx:=by
    rintro b fr ob nx rfl hf;refine hK _ _ _ (bF hf ?_);clear hf hK K;refine aG (b:=aG0 r) rfl (fun hb=>?_) (fun hb=>?_)
    · refine R0 ?_;refine aF (RT Tryz.results30 ?_);exact aJ [] (.bool false) rfl (by rw[aF8 (aF7 hlt (by rw[aU5,←hr,hb,Bool.or_true]))])
    refine aK ?_;refine T0 (hK _ _ _ ?_);clear hK K;refine R0 ?_;refine aM ?_;have hbn:=hb;clear hb;refine bI (α:={k:Nat//k≤i∧((p.r.take k).map Pr.a).contains r.a=false}) (fun k=>(fin [(1,.ptr 0 0),(3,.c (.int .i64 i)),(4,.ptr 2040 0),(5,.c (.int .i64 k.1))],fob [(0,.box 45 (.c p.cv)),(2040,.box 54 (.c r.cv))])) 5000 (fun k=>i-k.1) ⟨0,by omega,rfl⟩ (fF) ?_;rintro⟨k,hk,hno⟩;refine aC fun K hK=>?_;refine R0 ?_;refine aG (b:=decide ((k:Int)<(i:Int))) rfl (fun hb=>?_) (fun hb=>?_)
    ·
     have hki:k<i:=by simpa using hb
     have hkl:k<p.r.length:=by omega
     clear hb;refine aK ?_;refine T0 (hK _ _ _ ?_);clear hK K;refine aC fun K hK=>?_;refine aM ?_;refine aC fun K hK=>QR ?_;have F:=aI @Int.natCast_nonneg (aI @Int.ofNat_lt (aI hkl (nM hkl)));iterate 9 refine SF ?_
     refine T2 (hK _ _ _ ?_);clear hK K;refine aG (b:=p.r[k].a==r.a) rfl (fun hb=>?_) (fun hb=>?_)
     ·
      refine R0 ?_;refine aF (RT Tryz.results30 ?_);have he:p.r[k].a=r.a:=by simpa using hb
      have hc:((p.r.take i).map Pr.a).contains r.a=true:=by
       rw[List.contains_iff_mem,←he];exact List.mem_map_of_mem (List.mem_iff_getElem.2 ⟨k,by simp;omega,by simp⟩)
      exact aJ [] (.bool false) rfl (by rw[aF8 (aF7 hlt (by rw[aU5,←hr,hc,Bool.true_or]))])
     refine aK ?_;refine T0 (hK _ _ _ ?_);clear hK K;refine aN (by kernel_rfl) ?_;refine TQ (IntWalk.i64_in ((k:Int)+1) (by omega)) ?_;have he:(r.a==p.r[k].a)=false:=by
      rw[beq_eq_false_iff_ne]at hb⊢;exact fun h=>hb h.symm
     refine⟨⟨k+1,hki,by rw[List.take_succ_eq_append_getElem hkl];simp only[List.map_append,List.contains_append,hno,List.map_cons,List.map_nil,List.contains_cons,List.contains_nil,he,Bool.or_false]⟩,fF,?_⟩;show i-(k+1)<i-k;omega
    refine bD (T3 ?_);clear hK K;refine AX (hK _ _ _ ?_);clear hK K;have hke:k=i:=by simp at hb;omega
    subst hke;have hΦ2:=hΦ.succ hlt (by rw[aU5,←hr,hno,hbn];rfl);clear hb;refine aN (by kernel_rfl) ?_;refine TQ (IntWalk.i64_in ((k:Int)+1) (by omega)) ?_;refine⟨⟨k+1,hΦ2⟩,fF,?_⟩;show p.r.length-(k+1)<p.r.length-k;omega
   refine Rg ?_;iterate 2 refine S0 ?_
   refine HS rfl rfl fun K' hK'=>T5 ?_;refine C1 (wI r.a (by omega)) ?_;rintro u rfl;refine AX (hK' _ _ ?_);clear hK' K';iterate 2 refine S0 ?_
   refine aE 40 rfl (fun h7_40=>?_) (fun h7_40=>?_)
   ·
    have F:=h7_40;iterate 2 refine SF ?_
    refine bE (g:=some (42,false)) rfl rfl fun K' hK'=>T6 ?_;refine C1 (aM9 r.b) ?_;rintro u rfl;refine AX (hK' _ _ ?_);clear hK' K';iterate 3 refine SF ?_
    refine aE 45 rfl (fun h7_45=>?_) (fun h7_45=>?_)
    ·
     have F:=aI h7_40 h7_45;iterate 2 refine SF ?_
     refine bE (g:=some (48,false)) rfl rfl fun K' hK'=>T6 ?_;refine C1 (aM9 r.c) ?_;rintro u rfl;refine AX (hK' _ _ ?_);clear hK' K';iterate 3 refine SF ?_
     refine aE 51 rfl (fun h7_51=>?_) (fun h7_51=>?_)
     ·
      have F:=aI h7_40 (aI h7_45 h7_51);iterate 2 refine SF ?_
      refine bE (g:=some (54,false)) rfl rfl fun K' hK'=>T6 ?_;refine C1 (wH r.g) ?_;rintro u rfl;refine AX (hK' _ _ ?_);clear hK' K';iterate 3 refine SF ?_
      refine aE 57 rfl (fun h7_57=>?_) (fun h7_57=>?_)
      ·
       have F:=aI h7_40 (aI h7_45 (aI h7_51 h7_57));iterate 2 refine SF ?_
       refine bE (g:=some (60,false)) rfl rfl fun K' hK'=>T6 ?_;refine C1 (bQ9 r.t hrt) ?_;rintro u rfl;refine AX (hK' _ _ ?_);clear hK' K';iterate 2 refine SF ?_
       refine aE 63 rfl (fun h7_63=>?_) (fun h7_63=>?_)
       · simp only[h7_63];refine T4 ?_;exact key false _ _ _ (by simp only[aG0,h7_40,h7_45,h7_51,h7_57,h7_63,Bool.not_true,Bool.not_false,Bool.true_or,Bool.false_or]) (fF)
       simp only[h7_63];refine T4 ?_;exact key true _ _ _ (by simp only[aG0,h7_40,h7_45,h7_51,h7_57,h7_63,Bool.not_true,Bool.not_false,Bool.true_or,Bool.false_or]) (fF)
      have F:=aI h7_40 (aI h7_45 (aI h7_51 h7_57));iterate 5 refine SF ?_
      refine T4 ?_;exact key true _ _ _ (by simp only[aG0,h7_40,h7_45,h7_51,h7_57,Bool.not_true,Bool.not_false,Bool.true_or,Bool.false_or]) (fF)
     have F:=aI h7_40 (aI h7_45 h7_51);iterate 11 refine SF ?_
     refine T4 ?_;exact key true _ _ _ (by simp only[aG0,h7_40,h7_45,h7_51,Bool.not_true,Bool.not_false,Bool.true_or,Bool.false_or]) (fF)
    have F:=aI h7_40 h7_45;iterate 17 refine SF ?_
    refine T4 ?_;exact key true _ _ _ (by simp only[aG0,h7_40,h7_45,Bool.not_true,Bool.not_false,Bool.true_or,Bool.false_or]) (fF)
   have F:=h7_40;iterate 23 refine SF ?_
   refine T4 ?_;exact key true _ _ _ (by simp only[aG0,h7_40,Bool.not_true,Bool.not_false,Bool.true_or,Bool.false_or]) (fF)
  refine bD (T3 ?_);clear hK K;refine AX (hK _ _ _ ?_);clear hK K;refine R0 ?_;refine aF (RT Tryz.results30 ?_);have hie:i=p.r.length:=by have:=hΦ.le;simp at hb;omega
  subst hie;exact aJ [] (.bool true) rfl (by rw[aO0 hhead hΦ])
 refine Rg ?_;iterate 2 refine S0 ?_
 refine HS rfl rfl fun K' hK'=>T5 ?_;refine C1 (wI p.n (by omega)) ?_;rintro u rfl;refine AX (hK' _ _ ?_);clear hK' K';iterate 2 refine S0 ?_
 refine aE 8 rfl (fun h1_8=>?_) (fun h1_8=>?_)
 ·
  have F:=h1_8;iterate 5 refine SF ?_
  refine aE 13 rfl (fun h1_13=>?_) (fun h1_13=>?_)
  ·
   have F:=aI h1_8 h1_13;iterate 10 refine SF ?_
   refine T4 ?_;exact key true _ _ _ (by simp only[aF9,h1_8,h1_13,Bool.not_true,Bool.not_false,Bool.true_or,Bool.false_or]) (fF)
  have F:=aI h1_8 h1_13;iterate 5 refine SF ?_
  refine aE 18 rfl (fun h1_18=>?_) (fun h1_18=>?_)
  ·
   have F:=aI h1_8 (aI h1_13 h1_18);iterate 5 refine SF ?_
   refine T4 ?_;exact key true _ _ _ (by simp only[aF9,h1_8,h1_13,h1_18,Bool.not_true,Bool.not_false,Bool.true_or,Bool.false_or]) (fF)
  have F:=aI h1_8 (aI h1_13 h1_18);iterate 5 refine SF ?_
  refine aE 24 rfl (fun h1_24=>?_) (fun h1_24=>?_)
  · simp only[h1_24];refine T4 ?_;exact key true _ _ _ (by simp only[aF9,h1_8,h1_13,h1_18,h1_24,Bool.not_true,Bool.not_false,Bool.true_or,Bool.false_or]) (fF)
  simp only[h1_24];refine T4 ?_;exact key false _ _ _ (by simp only[aF9,h1_8,h1_13,h1_18,h1_24,Bool.not_true,Bool.not_false,Bool.true_or,Bool.false_or]) (fF)
 have F:=h1_8;iterate 15 refine SF ?_
 refine T4 ?_;exact key true _ _ _ (by simp only[aF9,h1_8,Bool.not_true,Bool.not_false,Bool.true_or,Bool.false_or]) (fF)
structure Few (p:Po):Prop where
 r:p.r.length≤20
 n:p.n.length≤100
 t: ∀r∈p.r,r.t.length≤70
theorem oS (p:Po)(hp:PoSz p):cA Tryz.prog 29 [p.cv] (fun v=>v= .bool (eU p)):=by
 have hpn:=hp.n;have hpr:=hp.r;refine FW Tryz.func29 ?_;refine R0 ?_;refine aC fun K hK=>?_;refine aC fun K hK=>?_;have key: ∀(b:Bool) fr ob nx,b=uH p→Fits 0 fr ob (fin [(1,.ptr 0 0),(21,.c (.bool b))]) (fob [(0,.box 45 (.c p.cv))]) 600→K fr ob nx:=by
  rintro b fr ob nx rfl hf;refine hK _ _ _ (bF hf ?_);clear hf hK K;refine aG (b:=uH p) rfl (fun hb=>?_) (fun hb=>?_)
  · refine R0 ?_;refine aF (RT Tryz.results29 ?_);exact aJ [] (.bool false) rfl (by rw[aA7 hb])
  refine aK ?_;refine T0 (hK _ _ _ ?_);clear hK K;refine R0 ?_;refine aC fun K hK=>?_;refine aC fun K hK=>Rg ?_;iterate 4 refine S0 ?_
  refine T2 (hK _ _ _ ?_);clear hK K;refine aM ?_;have hhead:=hb;clear hb;refine bI (α:={i:Nat//RlSt p.r i}) (fun i=>(fin [(3,.mapr 600),(24,.c (.slc (p.r.map Pr.cv))),(25,.c (.int .i64 p.r.length)),(26,.c (.int .i64 i.1))],fob [(600,.mp 0 0 (nmD (p.r.take i.1)))])) 2000 (fun i=>p.r.length-i.1) ⟨0,RlSt.zero p.r⟩ (aL (by omega) (by simp[aS,fin_at,finA_at,upd_at,HV.men,HV.menL,HV.norm,HV.toC,HV.toCL,nmD]) (by simp[aT,fob_at,upd_at,none0_at,bL,HO.men,HV.men,HV.menL,HV.norm,HV.toC,HV.toCL,nmD])) ?_;rintro⟨i,hΦ⟩;refine R0 ?_;refine aC fun K hK=>?_;refine aG (b:=decide ((i:Int)<p.r.length)) rfl (fun hb=>?_) (fun hb=>?_)
  ·
   have hlt:i<p.r.length:=by simpa using hb
   clear hb;obtain⟨r,hr⟩: ∃r,r=p.r[i]:=⟨_,rfl⟩;have hmem:r∈p.r:=by rw[hr];exact List.getElem_mem hlt
   have hra:=hp.a r hmem;have hrt:=hp.t r hmem;have hra2:r.a.length≤maxLen:=by simp[maxLen];omega
   have hiv:mT (cL (nmD (p.r.take i)) r.a)=true:=by rw[bA2];split<;>rfl
   have hva:Go.Hl.yH (CV.bool false) (cL (nmD (p.r.take i)) r.a)=CV.bool (((p.r.take i).map Pr.a).contains r.a):=by rw[bA2];split<;>simp_all[Go.Hl.yH]
   refine aK ?_;refine T0 (hK _ _ _ ?_);clear hK K;refine aC fun K hK=>?_;refine aM ?_;refine aC fun K hK=>Rg ?_;iterate 4 refine S0 ?_ (e:=fun _ h_=>by simp only[sH,↓sP,sA,tyS,simprocAttr,Int.natCast_nonneg,Int.ofNat_lt,hlt,bH hlt,←hr];exact AX h_)
   refine T2 (hK _ _ _ ?_);clear hK K;refine aC fun K hK=>?_;refine aC fun K hK=>?_;have key: ∀(b:Bool) fr ob nx,b=oA (((p.r.take i).map Pr.a).contains r.a) r→Fits 0 fr ob (fin [(3,.mapr 600),(24,.c (.slc (p.r.map Pr.cv))),(25,.c (.int .i64 p.r.length)),(26,.c (.int .i64 i)),(5,.ptr 2012 0),(63,.c (.bool b))]) (fob [(600,.mp 0 0 (nmD (p.r.take i))),(2012,.box 54 (.c r.cv))]) 3000→K fr ob nx:=by
    rintro b fr ob nx rfl hf;refine hK _ _ _ (bF hf ?_);clear hf hK K;refine aG (b:=oA (((p.r.take i).map Pr.a).contains r.a) r) rfl (fun hb=>?_) (fun hb=>?_)
    · refine R0 ?_;refine aF (RT Tryz.results29 ?_);exact aJ [] (.bool false) rfl (by rw[aF8 (aF7 hlt (by rw[←aN9,←hr];exact hb))])
    have hΦ2:=hΦ.succ hlt (by rw[←aN9,←hr];exact hb);have hnm:jV (nmD (p.r.take i)) r.a (.val (.bool true))=nmD (p.r.take (i+1)):=by rw[List.take_succ_eq_append_getElem hlt,bR7,hr]
    clear hb;refine aK ?_;refine T0 (hK _ _ _ ?_);clear hK K;refine Rg ?_;have F:=aI hra2 (aI hiv hnm);iterate 4 refine SF ?_
    refine T2 (hK _ _ _ ?_);clear hK K;refine aN (by kernel_rfl) ?_;refine TQ (IntWalk.i64_in ((i:Int)+1) (by omega)) ?_;refine⟨⟨i+1,hΦ2⟩,fF,?_⟩;show p.r.length-(i+1)<p.r.length-i;omega
   refine Rg ?_;have F:=aI hra2 (aI hiv hva);iterate 5 refine SF ?_
   refine aE 33 rfl (fun h7_33=>?_) (fun h7_33=>?_)
   ·
    have F:=aI hra2 (aI hiv (aI hva h7_33));iterate 29 refine SF ?_
    refine T4 ?_;exact key true _ _ _ (by simp only[oA,h7_33,Bool.not_true,Bool.not_false,Bool.true_or,Bool.false_or]) (fF)
   have F:=aI hra2 (aI hiv (aI hva h7_33));iterate 2 refine SF ?_
   refine bE (g:=some (34,false)) rfl rfl fun K' hK'=>T6 ?_;refine C1 (aE1 r.a (by omega)) ?_;rintro u rfl;refine AX (hK' _ _ ?_);clear hK' K';iterate 3 refine SF ?_
   refine aE 37 rfl (fun h7_37=>?_) (fun h7_37=>?_)
   ·
    have F:=aI hra2 (aI hiv (aI hva (aI h7_33 h7_37)));iterate 2 refine SF ?_
    refine bE (g:=some (40,false)) rfl rfl fun K' hK'=>T6 ?_;refine C1 (aZ2 r.b) ?_;rintro u rfl;refine AX (hK' _ _ ?_);clear hK' K';iterate 3 refine SF ?_
    refine aE 43 rfl (fun h7_43=>?_) (fun h7_43=>?_)
    ·
     have F:=aI hra2 (aI hiv (aI hva (aI h7_33 (aI h7_37 h7_43))));iterate 2 refine SF ?_
     refine bE (g:=some (46,false)) rfl rfl fun K' hK'=>T6 ?_;refine C1 (aZ2 r.c) ?_;rintro u rfl;refine AX (hK' _ _ ?_);clear hK' K';iterate 3 refine SF ?_
     refine aE 49 rfl (fun h7_49=>?_) (fun h7_49=>?_)
     ·
      have F:=aI hra2 (aI hiv (aI hva (aI h7_33 (aI h7_37 (aI h7_43 h7_49)))));iterate 2 refine SF ?_
      refine bE (g:=some (52,false)) rfl rfl fun K' hK'=>T6 ?_;refine C3 (iD _ _ _) ?_;rintro u rfl;refine AX (hK' _ _ ?_);clear hK' K';iterate 3 refine SF ?_
      refine aE 55 rfl (fun h7_55=>?_) (fun h7_55=>?_)
      ·
       have F:=aI hra2 (aI hiv (aI hva (aI h7_33 (aI h7_37 (aI h7_43 (aI h7_49 h7_55))))));iterate 2 refine SF ?_
       refine bE (g:=some (58,false)) rfl rfl fun K' hK'=>T6 ?_;refine C1 (uQ r.t hrt) ?_;rintro u rfl;refine AX (hK' _ _ ?_);clear hK' K';iterate 2 refine SF ?_
       refine aE 61 rfl (fun h7_61=>?_) (fun h7_61=>?_)
       · simp only[h7_61];refine T4 ?_;exact key false _ _ _ (by simp only[oA,h7_33,h7_37,h7_43,h7_49,h7_55,h7_61,Bool.not_true,Bool.not_false,Bool.true_or,Bool.false_or]) (fF)
       simp only[h7_61];refine T4 ?_;exact key true _ _ _ (by simp only[oA,h7_33,h7_37,h7_43,h7_49,h7_55,h7_61,Bool.not_true,Bool.not_false,Bool.true_or,Bool.false_or]) (fF)
      have F:=aI hra2 (aI hiv (aI hva (aI h7_33 (aI h7_37 (aI h7_43 (aI h7_49 h7_55))))));iterate 5 refine SF ?_
      refine T4 ?_;exact key true _ _ _ (by simp only[oA,h7_33,h7_37,h7_43,h7_49,h7_55,Bool.not_true,Bool.not_false,Bool.true_or,Bool.false_or]) (fF)
     have F:=aI hra2 (aI hiv (aI hva (aI h7_33 (aI h7_37 (aI h7_43 h7_49)))));iterate 11 refine SF ?_
     refine T4 ?_;exact key true _ _ _ (by simp only[oA,h7_33,h7_37,h7_43,h7_49,Bool.not_true,Bool.not_false,Bool.true_or,Bool.false_or]) (fF)
    have F:=aI hra2 (aI hiv (aI hva (aI h7_33 (aI h7_37 h7_43))));iterate 17 refine SF ?_
    refine T4 ?_;exact key true _ _ _ (by simp only[oA,h7_33,h7_37,h7_43,Bool.not_true,Bool.not_false,Bool.true_or,Bool.false_or]) (fF)
   have F:=aI hra2 (aI hiv (aI hva (aI h7_33 h7_37)));iterate 23 refine SF ?_
   refine T4 ?_;exact key true _ _ _ (by simp only[oA,h7_33,h7_37,Bool.not_true,Bool.not_false,Bool.true_or,Bool.false_or]) (fF)
  refine bD (T3 ?_);clear hK K;refine AX (hK _ _ _ ?_);clear hK K;refine R0 ?_;refine aF (RT Tryz.results29 ?_);have hie:i=p.r.length:=by have:=hΦ.le;simp at hb;omega
  subst hie;exact aJ [] (.bool true) rfl (by rw[aO0 hhead hΦ])
 refine Rg ?_;iterate 2 refine S0 ?_
 refine HS rfl rfl fun K' hK'=>T5 ?_;refine C1 (aE1 p.n (by omega)) ?_;rintro u rfl;refine AX (hK' _ _ ?_);clear hK' K';iterate 2 refine S0 ?_
 refine aE 8 rfl (fun h1_8=>?_) (fun h1_8=>?_)
 ·
  have F:=h1_8;iterate 2 refine SF ?_
  refine bE (g:=some (10,false)) rfl rfl fun K' hK'=>T6 ?_;refine C3 (iD _ _ _) ?_;rintro u rfl;refine AX (hK' _ _ ?_);clear hK' K';iterate 3 refine SF ?_
  refine aE 13 rfl (fun h1_13=>?_) (fun h1_13=>?_)
  ·
   have F:=aI h1_8 h1_13;iterate 5 refine SF ?_
   refine aE 20 rfl (fun h1_20=>?_) (fun h1_20=>?_)
   · simp only[h1_20];refine T4 ?_;exact key true _ _ _ (by simp only[uH,h1_8,h1_13,h1_20,Bool.not_true,Bool.not_false,Bool.true_or,Bool.false_or]) (fF)
   simp only[h1_20];refine T4 ?_;exact key false _ _ _ (by simp only[uH,h1_8,h1_13,h1_20,Bool.not_true,Bool.not_false,Bool.true_or,Bool.false_or]) (fF)
  have F:=aI h1_8 h1_13;iterate 5 refine SF ?_
  refine T4 ?_;exact key true _ _ _ (by simp only[uH,h1_8,h1_13,Bool.not_true,Bool.not_false,Bool.true_or,Bool.false_or]) (fF)
 have F:=h1_8;iterate 11 refine SF ?_
 refine T4 ?_;exact key true _ _ _ (by simp only[uH,h1_8,Bool.not_true,Bool.not_false,Bool.true_or,Bool.false_or]) (fF)
theorem bZ2 (ns im:aH)(r:Pr):cA Tryz.prog 71 [r.cv,.rp (.str ns),.rp (.str im)] (fun v=>v= .bool (zY ns im r)):=by
 refine FW Tryz.func71 ?_;refine R0 ?_;refine aC fun K hK=>Rg ?_;iterate 3 refine S0 ?_
 refine HS rfl rfl fun K' hK'=>T5 ?_;refine C2 (aN3 r.b ns) ?_;rintro u rfl;refine AX (hK' _ _ ?_);clear hK' K';refine S0 ?_;refine aE 8 rfl (fun h1_8=>?_) (fun h1_8=>?_)
 ·
  have F:=h1_8;iterate 3 refine SF ?_
  refine bE (g:=some (9,true)) rfl rfl fun K' hK'=>T6 ?_;refine C2 (aN3 r.c im) ?_;rintro u rfl;refine AX (hK' _ _ ?_);clear hK' K';iterate 2 refine SF ?_
  refine T2 (hK _ _ _ ?_);clear hK K;refine aF (RT Tryz.results71 ?_);exact aJ [] (.bool _) rfl (by simp only[zY,h1_8,Bool.and_true,Bool.and_false,Bool.true_and,Bool.false_and])
 have F:=h1_8;iterate 6 refine SF ?_
 refine T2 (hK _ _ _ ?_);clear hK K;refine aF (RT Tryz.results71 ?_);exact aJ [] (.bool _) rfl (by simp only[zY,h1_8,Bool.and_true,Bool.and_false,Bool.true_and,Bool.false_and])
def bG7 (l:List Pr)(p:Pr→Bool):Int:=match l.findIdx? p with|some i=>(i:Int)|none=> -1
variable {i:Nat}{p:Pr→Bool}{l:List Pr}
theorem bR9 (hi:i<l.length)(h:p l[i]=true)(h0: ∀j (hj:j<i),p (l[j]'(by omega))=false):bG7 l p=i:=by
 have:l.findIdx? p=some i:=by
  rw[List.findIdx?_eq_some_iff_getElem];exact⟨hi,h,fun j hj=>by rw[h0 j hj];simp⟩
 rw[bG7,this]
theorem bG8 (h0: ∀j (hj:j<l.length),p l[j]=false):bG7 l p= -1:=by
 have:l.findIdx? p=none:=by
  rw[List.findIdx?_eq_none_iff];intro r hr;obtain⟨j,hj,rfl⟩:=List.getElem_of_mem hr;exact h0 j hj
 rw[bG7,this]
theorem bZ3 (l:List Pr)(g:FuncId)(caps:List CV)(p:Pr→Bool)(hl:l.length<2^40)(hp: ∀r∈l,cA Tryz.prog g (r.cv::caps) (fun v=>v= .bool (p r))):
  bJ7 Tryz.prog 70 [.c (.slc (l.map Pr.cv)),.clo g (caps.map .c)] (fun v=>v= .int .i64 (bG7 l p)):=by
 refine bT Tryz.func70 rfl (by kernel_rfl) (aW6 (by simp[HV.menL,HV.men,HV.menL_c])) (Nat.le_of_ble_eq_true rfl) ?_;refine R0 ?_;refine aC fun K hK=>?_;refine R0 ?_;refine aM ?_;refine bI (α:={i:Nat//i≤l.length∧ ∀j (hj:j<i) (h:j<l.length),p l[j]=false}) (fun i=>(fin [(0,.c (.slc (l.map Pr.cv))),(1,.clo g (caps.map .c)),(7,.c (.int .i64 l.length)),(8,.c (.int .i64 i.1))],fob [])) 100 (fun i=>l.length-i.1) ⟨0,by omega,fun j hj=>by omega⟩ (aL (by omega) (by simp[aS,fin_at,finA_at,upd_at,HV.men,HV.menL,HV.norm,HV.toC,HV.toCL,HV.menL_c]) (by simp[aT])) ?_;rintro⟨i,hi,h0⟩;refine R0 ?_;refine aC fun K hK=>?_;refine aG (b:=decide ((i:Int)<l.length)) rfl (fun hb=>?_) (fun hb=>?_)
 ·
  have hlt:i<l.length:=by simpa using hb
  clear hb;refine aK ?_;refine T0 (hK _ _ _ ?_);clear hK K;refine aC fun K hK=>?_;refine aM ?_;refine R0 ?_;refine aC fun K hK=>Rg ?_;have F:=aI @Int.natCast_nonneg (aI @Int.ofNat_lt (aI hlt (nM hlt)));iterate 5 refine SF ?_
  refine HS rfl rfl fun K' hK'=>T6 ?_;refine oL (args:=l[i].cv::caps) (hp _ (List.getElem_mem hlt)) ⟨rfl,rfl,rfl,rfl⟩ ?_;rintro u rfl;refine AX (hK' _ _ ?_);clear hK' K';refine T2 (hK _ _ _ ?_);clear hK K;refine aG (b:=p l[i]) rfl (fun hb=>?_) (fun hb=>?_)
  · refine R0 ?_;refine aF (RT Tryz.results70 ?_);exact aJ [] (.int .i64 i) rfl (by rw[bR9 hlt hb fun j hj=>h0 j hj (by omega)])
  refine aK ?_;refine T0 (hK _ _ _ ?_);clear hK K;refine aN (by kernel_rfl) ?_;refine TQ (IntWalk.i64_in ((i:Int)+1) (by omega)) ?_;refine⟨⟨i+1,hlt,fun j hj h=>?_⟩,aL (by omega) (by simp[aS,fin_at,finA_at,upd_at,HV.men,HV.menL,HV.norm,HV.toC,HV.toCL,HV.menL_c]) (by simp[aT]),?_⟩
  ·
   rcases Nat.lt_or_ge j i with h1|h1
   · exact h0 j h1 h
   obtain rfl:j=i:=by omega
   exact hb
  show l.length-(i+1)<l.length-i;omega
 refine bD (T3 ?_);clear hK K;refine AX (hK _ _ _ ?_);clear hK K;refine R0 ?_;refine aF (RT Tryz.results70 ?_);have hei:i=l.length:=by simp at hb;omega
 subst hei;exact aJ [] (.int .i64 (-1)) rfl (by rw[bG8 fun j hj=>h0 j hj hj])
theorem bZ4 (p:Po)(hp:PoSz p)(ns im:aH):cA Tryz.prog 39 [p.cv,.str ns,.str im] (fun v=>v= .int .i64 (bP1 p ns im)):=by
 refine FW Tryz.func39 ?_;refine aC fun K hK=>Rg ?_;iterate 4 refine S0 ?_
 refine T2 (hK _ _ _ ?_);clear hK K;refine aC fun K hK=>?_;refine aC fun K hK=>Rg ?_;refine S0 ?_;refine HS rfl rfl fun K' hK'=>T5 ?_;refine C1 (oS p hp) ?_;rintro u rfl;refine AX (hK' _ _ ?_);clear hK' K';refine S0 ?_;refine T2 (hK _ _ _ ?_);clear hK K;refine aG (b:=!eU p) rfl (fun hb=>?_) (fun hb=>?_)
 · refine R0 ?_;refine aF (RT Tryz.results39 ?_);exact aJ [] (.int .i64 (-1)) rfl (by rw[bP2 (by simpa using hb)])
 refine aK ?_;refine T0 (hK _ _ _ ?_);clear hK K;have hv:eU p=true:=by simpa using hb
 clear hb;refine yS 4 4 rfl rfl ?_;refine yS 5 8 rfl rfl ?_;refine aC fun K hK=>Rg ?_;have F:=aI @bV0 @upd_at;iterate 3 refine SF ?_
 refine HS rfl rfl fun K' hK'=>T6 ?_;refine aR2 (bZ3 p.r 71 [.rp (.str ns),.rp (.str im)] (zY ns im) hp.r fun r _=>bZ2 ns im r) (by simp[HV.menL,HV.men]) (fun m=>by simp[HV.renL,HV.ren]) ⟨rfl,rfl,rfl,rfl⟩ ?_;rintro u rfl;refine AX (hK' _ _ ?_);clear hK' K';refine SF ?_;refine T2 (hK _ _ _ ?_);clear hK K;refine aF (RT Tryz.results39 ?_);exact aJ [] (.int .i64 (bG7 p.r (zY ns im))) rfl (by rw[bP1,if_pos hv];rfl)
def tp (L:List Int)(a:Nat):CV:= .agg [.slc (L.map (.int .i64)),.int .i64 a]
attribute [local simp] tp
theorem dP (L:List Int)(a:Nat)(n:Int)(ha:a<2^40)(hn:n<2^62):bC3 Tryz.prog 36 83 (tp L a) [.int .i64 n] (fun u v'=> ∃(x:Int) (a':Nat),u= .int .i64 x∧v'=tp L a'∧a'≤a+1∧0≤x∧(n<1→x=0)∧(1≤n→x<n)):=by
 refine bT Tryz.func36 rfl (by kernel_rfl) (dN _ _ _) (Nat.le_of_ble_eq_true rfl) ?_;refine R0 ?_;refine aC fun K hK=>?_;refine R0 ?_;refine aG (b:=decide (n<1)) rfl (fun hb=>?_) (fun hb=>?_)
 · refine R0 ?_;refine aF (RT Tryz.results36 ?_);refine fX [] (.int .i64 0) (tp L a) rfl rfl ?_ (by simp) ⟨0,a,rfl,rfl,by omega,by omega,fun _=>rfl,fun h=>by omega⟩;simp[HV.close,tp,CV.denil,CV.denilL,denilL_int,HV.norm,HV.toC]
 refine aK ?_;refine T0 (hK _ _ _ ?_);clear hK K;refine aC fun K hK=>Rg ?_;iterate 7 refine S0 ?_ (e:=fun _ h_=>by simp only[sH,↓sP,sA,tyS,simprocAttr,tp];exact AX h_)
 refine T2 (hK _ _ _ ?_);clear hK K;refine aC fun K hK=>?_;have key: ∀(v:Int) fr ob nx,Fits 1 fr ob (fin [(0,.ptr 0 0),(1,.c (.int .i64 n)),(5,.c (.int .i64 v))]) (fob [(0,.box 83 (.c (tp L a)))]) 300→K fr ob nx:=by
  intro v fr ob nx hf;refine hK _ _ _ (bF hf ?_);clear hf hK K;have hn1:1≤n:=by simp at hb;omega
  have e0:=Int.tmod_lt_of_pos v (b:=n) (by omega);have e1: -n<v.tmod n:=Int.lt_tmod_of_pos v (by omega);refine aC fun K hK=>Rg ?_;iterate 8 refine S0 ?_ (e:=fun _ h_=>by simp only[sH,↓sP,sA,tyS,simprocAttr,tp];exact AX h_)
  refine T2 (hK _ _ _ ?_);clear hK K;refine aC fun K hK=>Rg ?_;iterate 8 refine S0 ?_ (e:=fun _ h_=>by simp only[sH,↓sP,sA,tyS,simprocAttr,tp];exact AX h_)
  refine T2 (hK _ _ _ ?_);clear hK K;refine aF (RT Tryz.results36 ?_);have e2:IntKind.i64.wrap (v.tmod n+n)=v.tmod n+n:=IntWalk.i64_in _ (by omega);have e3:IntKind.i64.wrap ((a:Int)+1)=((a+1:Nat):Int):=IntWalk.i64_in _ (by omega);refine fX [] (.int .i64 ((v.tmod n+n).tmod n)) (tp L (a+1)) (by rw[e2];rfl) rfl ?_ (by simp) ⟨_,a+1,rfl,rfl,by omega,Int.tmod_nonneg _ (by omega),fun h=>by omega,fun _=>Int.tmod_lt_of_pos _ (by omega)⟩;simp[HV.close,HV.closeL,tp,CV.denil,CV.denilL,denilL_int,HV.norm,HV.toC,HV.toCL,e3]
 refine aC fun K hK=>QR ?_;iterate 10 refine S0 ?_ (e:=fun _ h_=>by simp only[sH,↓sP,sA,tyS,simprocAttr,tp];exact AX h_)
 refine T2 (hK _ _ _ ?_);clear hK K;refine aG (b:=decide ((a:Int)<L.length)) rfl (fun hb=>?_) (fun hb=>?_)
 ·
  refine QW ?_;simp only[sR,simprocAttr];iterate 11 refine S0 ?_ (e:=fun _ h_=>by simp only[sH,↓sP,sA,tyS,simprocAttr,tp,Int.natCast_nonneg,(by simpa using hb:(a:Int)<L.length),bH (show a<L.length by simpa using hb)];exact AX h_)
  refine T4 ?_;exact key (L[a]'(by simpa using hb)) _ _ _ (fF)
 refine aK (T3 ?_);exact key (IntKind.i64.wrap (IntKind.i64.wrap (↑a*7)+3)) _ _ _ (fF)
theorem rG (L:List Int)(a:Nat)(l:List aH)(ha:a<2^40)(hl:1≤l.length∧l.length<2^40):bC3 Tryz.prog 35 83 (tp L a) [.slc (l.map .str)] (fun u v'=> ∃(w:aH) (a':Nat),u= .str w∧w∈l∧v'=tp L a'∧a'≤a+1):=by
 refine bT Tryz.func35 rfl (by kernel_rfl) (dN _ _ _) (Nat.le_of_ble_eq_true rfl) ?_;refine R0 ?_;refine aC fun K hK=>aN (by kernel_rfl) ?_;simp only[↓sP,sA,tyS,simprocAttr];refine bJ (args:=[_]) (dP L a l.length ha (by omega)) rfl (by simp) ⟨rfl,rfl,rfl,rfl⟩ ?_;rintro u v' ⟨x,a',rfl,rfl,h1,h2,h3,h4⟩;obtain⟨i,rfl⟩: ∃i:Nat,x=i:=⟨x.toNat,by omega⟩;have hlt:i<l.length:=by omega
 simp only[↓sP,sA,tyS,simprocAttr,Int.natCast_nonneg,Int.ofNat_lt,hlt,bH hlt];refine AX (hK _ _ _ ?_);clear hK K;refine aF (RT Tryz.results35 ?_);exact fX [] (.str l[i]) (tp L a') rfl rfl (by simp[HV.close,HV.closeL,tp,CV.denil,CV.denilL,denilL_int,HV.norm,HV.toC,HV.toCL]) (by simp) ⟨_,a',rfl,List.getElem_mem _,rfl,h1⟩
theorem mF (n k:Int)(h1:1≤k)(hk:k<2^40):cA Tryz.prog 25 [.int .i64 n,.int .i64 k] (fun v=> ∃x:Nat,(x:Int)<k∧v= .int .i64 x):=by
 have e0:=Int.tmod_lt_of_pos n (b:=k) (by omega);have e1: -k<n.tmod k:=Int.lt_tmod_of_pos n (by omega);have e2:IntKind.i64.wrap (n.tmod k+k)=n.tmod k+k:=IntWalk.i64_in _ (by omega);have e3:(k=0)=False:=by simp;omega
 have e4:=Int.tmod_lt_of_pos (n.tmod k+k) (b:=k) (by omega);have e5:=Int.tmod_nonneg k (show 0≤n.tmod k+k by omega);refine FW Tryz.func25 ?_;refine R0 ?_;refine aC fun K hK=>Rg ?_;have F:=aI e2 e3;iterate 8 refine SF ?_
 refine T2 (hK _ _ _ ?_);clear hK K;refine aF (RT Tryz.results25 ?_);exact aJ [] (.int .i64 ((n.tmod k+k).tmod k)) rfl ⟨((n.tmod k+k).tmod k).toNat,by omega,by rw[Int.toNat_of_nonneg e5]⟩
theorem bZ5 (L:List Int)(n:Nat):HGe Tryz.prog 24 [.c (.slc (L.map (.int .i64))),.c (.int .i64 n)] [] (fun r os'=>r= .ptr 0 0∧os'=[.box 83 (.c (tp (L.take n) 0))]):=by
 refine bT (args:=[.c (.slc (L.map (.int .i64))),.c (.int .i64 n)]) Tryz.func24 rfl (by kernel_rfl) (eS rfl (by simp[eH]) (by simp[HV.menL,HV.men])) (Nat.le_of_ble_eq_true rfl) ?_;show Hw _ _ 0 _ _ _ (lst _) 0;rw[show lst []=fob []from by funext i;simp[lst,fob]];refine R0 ?_;refine aC fun K hK=>Rg ?_;have F:=@denilL_int;iterate 9 refine SF ?_
 refine T2 (hK _ _ _ ?_);clear hK K;refine aF (RT Tryz.results24 ?_);refine eD [] [32] (.ptr 0 0) [.box 83 (.c (tp (L.take n) 0))] rfl (by simp[HV.men]) ⟨⟨by simp[HO.men,HV.men],by simp,_,rfl,?_⟩,trivial⟩ rfl (by simp) (by simp) (by simp) ⟨rfl,rfl⟩;simp[HO.close,HV.close,HV.closeL,HO.ren,HV.ren,HV.renL,tau,CV.denil,CV.denilL,denilL_int,HV.norm,fB,upd_at,fob_at,HV.toC,HV.toCL,tp];have e:(if n<L.length then(n:Int)else(L.length:Int)).toNat=min n L.length:=by split<;>omega
 rw[e,←List.map_take,←List.map_take,denilL_int,←List.take_eq_take_min]
theorem bA4 (L:List Int)(a:Nat)(ha:a<2^39):bC3 Tryz.prog 41 83 (tp L a) [] (fun u v'=> ∃(q:Rq) (a':Nat),u=q.cv∧v'=tp L a'∧a'≤a+3∧dR q=true):=by
 refine bT Tryz.func41 rfl (by kernel_rfl) (dN _ _ _) (Nat.le_of_ble_eq_true rfl) ?_;have hw3: ∀x:Int,0≤x→x<100→IntKind.i64.wrap (1+x)=1+x:=fun x h1 h2=>IntWalk.i64_in _ (by omega);refine R0 ?_;refine aC fun K hK=>Rg ?_;refine S0 ?_;refine HS rfl rfl fun K' hK'=>T5 ?_;refine bJ (args:=[_]) (dP L a 8 (by omega) (by omega)) rfl (by simp) ⟨rfl,rfl,rfl,rfl⟩ ?_;rintro u v' ⟨x,a1,rfl,rfl,h1,h2,h3,h4⟩;refine AX (hK' _ _ ?_);clear hK' K';iterate 4 refine S0 ?_
 refine T2 (hK _ _ _ ?_);clear hK K;refine aC fun K hK=>?_;have key: ∀(q:Rq) (a':Nat) fr ob nx,dR q=true→a'≤a+3→Fits 1 fr ob (fin [(2,.ptr 1 0),(3,.ptr 21 0)]) (fob [(0,.box 83 (.c (tp L a'))),(1,.box 38 (.c rq0.cv)),(21,.box 38 (.c q.cv))]) 600→K fr ob nx:=by
  rintro q a' fr ob nx hq ha' hf;refine hK _ _ _ (bF hf ?_);clear hf hK K;refine R0 ?_;refine aF (RT Tryz.results41 ?_);exact fX [] q.cv (tp L a') (by simp[HV.close,Rq.denil,HV.norm,HV.toC]) rfl (by simp[HV.close,tp,CV.denil,CV.denilL,denilL_int,HV.norm,HV.toC]) (by simp) ⟨q,a',rfl,rfl,ha',hq⟩
 have hx8:=h4 (by omega);obtain⟨k,hk⟩: ∃k,k=IntKind.i64.wrap (1+x):=⟨_,rfl⟩;have hkx:k=1+x:=by rw[hk,hw3 x h2 (by omega)]
 rw[←hk];clear hk h3 h4;refine R0 ?_;refine aM ?_;refine aC fun K hK=>?_;have key2: ∀(b:Bool) fr ob nx,b=(k==1||(k==3||k==5))→Fits 1 fr ob (fin [(0,.ptr 0 0),(2,.ptr 1 0),(3,.ptr 21 0),(9,.c (.int .i64 k)),(10,.c (.bool b))]) (fob [(0,.box 83 (.c (tp L a1))),(1,.box 38 (.c rq0.cv)),(21,.box 38 (.c (Rq.cv ⟨k,0,0,[]⟩)))]) 200→K fr ob nx:=by
  rintro b fr ob nx rfl hf;refine hK _ _ _ (bF hf ?_);clear hf hK K;refine aG (b:=_) rfl (fun hb=>?_) (fun hb=>?_)
  ·
   refine Rg ?_;refine S0 ?_;refine HS rfl rfl fun K' hK'=>T5 ?_;refine bJ (args:=[_]) (dP L a1 3 (by omega) (by omega)) rfl (by simp) ⟨rfl,rfl,rfl,rfl⟩ ?_;rintro u v' ⟨y,a2,rfl,rfl,g1,g2,g3,g4⟩;refine AX (hK' _ _ ?_);clear hK' K';iterate 3 refine S0 ?_
   refine T4 ?_;have g5:=g4 (by omega);have hk3:k=1∨k=3∨k=5:=by simpa using hb
   exact key ⟨k,IntKind.i64.wrap (1+y),0,[]⟩ a2 _ _ _ (by rw[hw3 y g2 (by omega),dR,if_pos hk3];simp[inB];omega) (by omega) (fF)
  have h1:=hb;refine R0 ?_;refine aG (b:=_) rfl (fun hb=>?_) (fun hb=>?_)
  ·
   refine Rg ?_;refine S0 ?_;refine HS rfl rfl fun K' hK'=>T5 ?_;refine bJ (args:=[_]) (dP L a1 2 (by omega) (by omega)) rfl (by simp) ⟨rfl,rfl,rfl,rfl⟩ ?_;rintro u v' ⟨y,a2,rfl,rfl,g1,g2,g3,g4⟩;have g5:=g4 (by omega);clear g3 g4;refine AX (hK' _ _ ?_);clear hK' K';iterate 2 refine S0 ?_
   refine HS rfl rfl fun K' hK'=>T5 ?_;refine bJ (args:=[_]) (dP L a2 2 (by omega) (by omega)) rfl (by simp) ⟨rfl,rfl,rfl,rfl⟩ ?_;rintro u v' ⟨z,a3,rfl,rfl,f1,f2,f3,f4⟩;refine AX (hK' _ _ ?_);clear hK' K';iterate 4 refine S0 ?_
   refine T4 ?_;have n1: ¬(k=1∨k=3∨k=5):=by simpa using h1
   have f5:=f4 (by omega);have hk4:k=4:=by simpa using hb
   exact key ⟨k,IntKind.i64.wrap (1+y),z,[]⟩ a3 _ _ _ (by rw[hw3 y g2 (by omega),dR,if_neg n1,if_pos hk4];simp[inB];omega) (by omega) (fF)
  have n4: ¬k=4:=by simpa using hb
  refine R0 ?_;refine aG (b:=_) rfl (fun hb=>?_) (fun hb=>?_)
  ·
   refine bA (by kernel_rfl) ?_;simp only[sR,simprocAttr];refine SG0 ?_;refine cF (g:=none) 220 rfl rfl fun K' hK'=>?_;simp only[eG,fS,sH,↓sP,sA,tyS,simprocAttr];repeat refine AI ?_
   refine bV (by first|rfl|simp) ?_;try simp only[sH,↓sP,sA,tyS,simprocAttr]
   refine AX (hK' _ _ ?_);clear hK' K';refine bM (g:=none) rfl rfl fun K' hK'=>T5 ?_;refine bJ (args:=[_]) (rG L a1 [[115,104,111,112],[119,101,98]] (by omega) (by decide)) rfl (by simp) ⟨rfl,rfl,rfl,rfl⟩ ?_;rintro u v' ⟨w,a2,rfl,hwm,rfl,g1⟩;refine AX (hK' _ _ ?_);clear hK' K';iterate 2 refine SG0 ?_
   refine T4 ?_;have n1: ¬(k=1∨k=3∨k=5):=by simpa using h1
   have hk2:k=2:=by simpa using hb
   exact key ⟨k,0,0,w⟩ a2 _ _ _ (by
    have hnm:dG w=true:=by
     simp only[List.mem_cons,List.not_mem_nil,or_false]at hwm;rcases hwm with rfl|rfl<;>decide
    rw[dR,if_neg n1,if_neg n4,if_pos hk2,hnm];rfl) (by omega) (fF)
  have n2: ¬k=2:=by simpa using hb
  refine R0 ?_;refine aG (b:=_) rfl (fun hb=>?_) (fun hb=>?_)
  ·
   refine Rg ?_;refine S0 ?_;refine HS rfl rfl fun K' hK'=>T5 ?_;refine bJ (args:=[_]) (dP L a1 10 (by omega) (by omega)) rfl (by simp) ⟨rfl,rfl,rfl,rfl⟩ ?_;rintro u v' ⟨y,a2,rfl,rfl,g1,g2,g3,g4⟩;refine AX (hK' _ _ ?_);clear hK' K';iterate 3 refine S0 ?_
   refine T4 ?_;have n1: ¬(k=1∨k=3∨k=5):=by simpa using h1
   have g5:=g4 (by omega);have hk6:k=6:=by simpa using hb
   exact key ⟨k,IntKind.i64.wrap (1+y),0,[]⟩ a2 _ _ _ (by rw[hw3 y g2 (by omega),dR,if_neg n1,if_neg n4,if_neg n2,if_pos hk6];simp[inB];omega) (by omega) (fF)
  have n6: ¬k=6:=by simpa using hb
  refine R0 ?_;refine aG (b:=_) rfl (fun hb=>?_) (fun hb=>?_)
  ·
   refine Rg ?_;refine S0 ?_;refine HS rfl rfl fun K' hK'=>T5 ?_;refine bJ (args:=[_]) (dP L a1 30 (by omega) (by omega)) rfl (by simp) ⟨rfl,rfl,rfl,rfl⟩ ?_;rintro u v' ⟨y,a2,rfl,rfl,g1,g2,g3,g4⟩;refine AX (hK' _ _ ?_);clear hK' K';iterate 2 refine S0 ?_
   refine T4 ?_;have n1: ¬(k=1∨k=3∨k=5):=by simpa using h1
   have g5:=g4 (by omega);have hk7:k=7:=by simpa using hb
   exact key ⟨k,y,0,[]⟩ a2 _ _ _ (by rw[dR,if_neg n1,if_neg n4,if_neg n2,if_neg n6,if_pos hk7,fZ];simp[inB];omega) (by omega) (fF)
  refine aK (T3 ?_);have n1: ¬(k=1∨k=3∨k=5):=by simpa using h1
  have n7: ¬k=7:=by simpa using hb
  have hk8:k=8:=by omega
  exact key ⟨k,0,0,[]⟩ a1 _ _ _ (by rw[dR,if_neg n1,if_neg n4,if_neg n2,if_neg n6,if_neg n7,if_pos hk8];rfl) (by omega) (fF)
 refine R0 ?_;refine aG (b:=_) rfl (fun hb=>?_) (fun hb=>?_)
 · refine aK (T3 ?_);exact key2 (k==1) _ _ _ (by rw[hb];rfl) (aL (by omega) (by simp[aS,fin_at,finA_at,upd_at,HV.men,HV.menL,HV.norm,HV.toC,HV.toCL,Rq.cv,rq0]) (by simp[aT,fob_at,upd_at,none0_at,bL,HO.men,HV.men,HV.menL,HV.norm,HV.toC,HV.toCL,Rq.cv,rq0]))
 have h1:=hb;refine R0 ?_;refine aG (b:=_) rfl (fun hb=>?_) (fun hb=>?_)
 · refine aK (T3 ?_);exact key2 (k==3) _ _ _ (by rw[h1,hb];rfl) (aL (by omega) (by simp[aS,fin_at,finA_at,upd_at,HV.men,HV.menL,HV.norm,HV.toC,HV.toCL,Rq.cv,rq0]) (by simp[aT,fob_at,upd_at,none0_at,bL,HO.men,HV.men,HV.menL,HV.norm,HV.toC,HV.toCL,Rq.cv,rq0]))
 have h1':=hb;refine aN (by kernel_rfl) ?_;simp only[↓sP,sA,tyS,simprocAttr];exact key2 (k==5) _ _ _ (by rw[h1,h1'];rfl) (aL (by omega) (by simp[aS,fin_at,finA_at,upd_at,HV.men,HV.menL,HV.norm,HV.toC,HV.toCL,Rq.cv,rq0]) (by simp[aT,fob_at,upd_at,none0_at,bL,HO.men,HV.men,HV.menL,HV.norm,HV.toC,HV.toCL,Rq.cv,rq0]))
def ShN (T:List Nd):Prop:= ∀n∈T,n.q.t.length<2^63
variable {T:List Nd}
theorem ShN.set (h:ShN T)(i:Nat){x:Nd}(hx:x.q.t.length<2^63):ShN (T.set i x):=fun n hn=>by
 rcases List.mem_or_eq_of_mem_set hn with h1|rfl
 · exact h n h1
 exact hx
theorem bS0 (n:Nat):HV.ren (sub [] n) (.ptr 0 0)= .ptr n 0:=by simp[HV.ren,sub]
theorem bG9 (n:Nat)(ob:Ob)(t:TypeId)(v:CV):jP (sub [] n) ob 0 [.box t (.c v)]=upd ob n (some (.box t (.c v))):=by simp[jP,sub,HO.ren,HV.ren]
theorem xF (T:List Nd)(i:Nat)(x:Nd):(List.map Nd.cv T).set i x.cv=List.map Nd.cv (T.set i x):=by rw[List.map_set]
theorem rH (T:List Nd)(i:Nat)(x y:Nd):(T.set i x).set i y=T.set i y:=by rw[List.set_set]
theorem xG (hi:i<T.length)(x:Nd):nth (List.map Nd.cv (T.set i x)) i=x.cv:=by
 rw[bH (by simpa using hi)];simp
theorem aO1 (hi:i<T.length)(x:Nd):(T.set i x=[])=False:=by
 simp only[eq_iff_iff,iff_false];intro h;have:=congrArg List.length h;rw[List.length_set,List.length_nil]at this;omega
theorem kV (hi:i<T.length):(T=[])=False:=by
 simp only[eq_iff_iff,iff_false];intro h;rw[h]at hi;cases hi
def aB :Nat→Nat
 |0=>4
 |d+1=>8+3*aB d
theorem aO2 : ∀d,d≤3→aB d≤400:=by decide
theorem cC2 : ∀d,d≤3→4≤aB d:=by decide
theorem cF2 {d n:Nat}(hd:d≤3){p:Nat×Nat}(h:p∈pos d n):p.1≤60:=by
 rcases Nat.lt_or_ge n 9 with hn|hn
 ·
  have key: ∀d,d<4→ ∀n,n<9→ ∀p∈pos d n,p.1≤60:=by decide+kernel
  exact key d (by omega) n hn p h
 cases d with
 |zero=>simp[pos]at h;subst h;simp
 |succ d=>
  rw[pos,oQ,if_neg (by omega)]at h;simp at h;subst h;simp
theorem aO3 {d n:Nat}{t:List Nd}(h:Made d n t)(hd:d≤3):t.length≤60:=cF2 hd h.pos
theorem aO4 {ob:Ob}{L:List Int}{a d m a':Nat}{t:List Nd}{X:List CV}(h0:ob 0=some (.box 83 (.c (tp L a'))))(h1:ob 1=some (.row 40 7 X))(hm:m=(T++t).length)(hX:X=(T++t).map Nd.cv)(hM:Made d T.length t)(ha:a'≤a+aB d):
  mK 2 (.own 1 m) ob (fun r ob'=> ∃os',ob'=lst os'∧(2≤os'.length∧os'.length≤2+4)∧ ∃(t:List Nd) (a':Nat),r= .own 1 (T++t).length∧os'=[.box 83 (.c (tp L a')),.row 40 7 ((T++t).map Nd.cv)]∧Made d T.length t∧a'≤a+aB d):=by
 subst hm hX;exact eD [] [] (.own 1 (T++t).length) [.box 83 (.c (tp L a')),.row 40 7 ((T++t).map Nd.cv)] rfl (by simp[HV.men]) ⟨⟨by simp[HO.men,HV.men],by simp,_,h0,by simp[HO.close,HV.close,HO.ren,HV.ren,HV.norm,fB,HV.toC,tp,CV.denil,CV.denilL,denilL_int]⟩,⟨by simp[HO.men],by simp,_,h1,rfl⟩,trivial⟩ rfl List.nodup_nil (by simp) (by simp) ⟨t,a',rfl,rfl,hM,ha⟩
theorem bS1 (n:Nat)(ob:Ob)(e:TypeId)(sz:Nat)(v:CV)(L:List CV)(t:TypeId):jP (sub [0,1] n) ob 0 [.box t (.c v),.row e sz L]=upd (upd ob 0 (some (.box t (.c v)))) 1 (some (.row e sz L)):=rfl
theorem bZ6 (n m:Nat):HV.ren (sub [0,1] n) (.own 1 m)= .own 1 m:=rfl
theorem cJ9 (L:List Int)(a:Nat)(T:List Nd):lst [.box 83 (.c (tp L a)),.row 40 7 (T.map Nd.cv)]=fob [(0,.box 83 (.c (tp L a))),(1,.row 40 7 (T.map Nd.cv))]:=by
 funext i
 match i with
 |0=>rfl
 |1=>rfl
 |i+2=>simp[lst,fob,upd]
abbrev cN0 (L:List Int)(a d:Nat)(T:List Nd)(r:HV)(os':List HO):Prop:=
 ∃(t:List Nd) (a':Nat),r= .own 1 (T++t).length∧os'=[.box 83 (.c (tp L a')),.row 40 7 ((T++t).map Nd.cv)]∧Made d T.length t∧a'≤a+aB d
theorem cF3 (d:Nat): ∀(L:List Int) (a:Nat) (T:List Nd),d≤3→a+aB d<2^38→0<T.length→T.length<2^38→
  HGe Tryz.prog 50 [.ptr 0 0,.own 1 T.length,.c (.int .i64 d)] [.box 83 (.c (tp L a)),.row 40 7 (T.map Nd.cv)] (cN0 L a d T):=by
 induction d using Nat.strongRecOn with
 |ind d ih=>?_
 intro L a T hd ha hT0 hTl;refine bT (args:=[.ptr 0 0,.own 1 T.length,.c (.int .i64 d)]) Tryz.func50 rfl (by kernel_rfl) (eS rfl (by simp[eH,HO.men,HV.men,HV.menL]) (by simp[HV.menL,HV.men])) (Nat.le_of_ble_eq_true rfl) ?_;show Hw _ _ 2 _ _ _ (lst _) 2;rw[cJ9];have hab:=aO2 d hd;have hw1: ∀x:Int,0≤x→x<100→IntKind.i64.wrap (1+x)=1+x:=fun x h1 h2=>IntWalk.i64_in _ (by omega);have hw2: ∀x:Int,0≤x→x<100→IntKind.i64.wrap (2+x)=2+x:=fun x h1 h2=>IntWalk.i64_in _ (by omega);refine R0 ?_;refine aC fun K hK=>?_;refine aC fun K hK=>?_;have key: ∀(b:Bool) (a1:Nat) fr ob nx,(b=false→0<d∧T.length≤8)→a1≤a+1→Fits 2 fr ob (fin [(0,.ptr 0 0),(1,.own 1 T.length),(2,.c (.int .i64 d)),(20,.c (.bool b))]) (fob [(0,.box 83 (.c (tp L a1))),(1,.row 40 7 (T.map Nd.cv))]) 200→K fr ob nx:=by
  rintro b a1 fr ob nx hbf ha1 hf;refine hK _ _ _ (bF hf ?_);clear hf hK K;refine aG (b:=b) rfl (fun hb=>?_) (fun hb=>?_)
  ·
   clear hbf;refine aC fun K hK=>Rg ?_;iterate 2 refine S0 ?_
   refine HS rfl rfl fun K' hK'=>T5 ?_;refine bJ (args:=[]) (bA4 L a1 (by omega)) rfl (by simp) ⟨rfl,rfl,rfl,rfl⟩ ?_;rintro u v' ⟨q,a2,rfl,rfl,s1,s2⟩;refine AX (hK' _ _ ?_);clear hK' K';iterate 4 refine S0 ?_
   refine T2 (hK _ _ _ ?_);clear hK K;refine aF (RT Tryz.results50 ?_);have:=cC2 d hd;exact aO4 (t:=[⟨1,0,0,q⟩]) rfl rfl (by simp) (by simp) (zX s2) (by omega)
  obtain⟨hd0,hT8⟩:=hbf hb;clear hbf hb;refine aK ?_;refine T0 (hK _ _ _ ?_);clear hK K;refine aC fun K hK=>Rg ?_;refine S0 ?_;refine HS rfl rfl fun K' hK'=>T5 ?_;refine bJ (args:=[_]) (dP L a1 3 (by omega) (by omega)) rfl (by simp) ⟨rfl,rfl,rfl,rfl⟩ ?_;rintro u v' ⟨x,a2,rfl,rfl,h1,h2,h3,h4⟩;refine AX (hK' _ _ ?_);clear hK' K';iterate 2 refine S0 ?_
  refine HS rfl rfl fun K' hK'=>T5 ?_;refine bJ (args:=[_]) (dP L a2 3 (by omega) (by omega)) rfl (by simp) ⟨rfl,rfl,rfl,rfl⟩ ?_;rintro u v' ⟨y,a3,rfl,rfl,g1,g2,g3,g4⟩;refine AX (hK' _ _ ?_);clear hK' K';iterate 4 refine S0 ?_
  refine T2 (hK _ _ _ ?_);clear hK K;refine aC fun K hK=>?_;have key2: ∀(k c N:Int) (a4:Nat) fr ob nx,(1≤c∧c≤3)→k≠1→bR ⟨k,N,c,rq0⟩=true→a4≤a+4→Fits 2 fr ob (fin [(0,.ptr 0 0),(1,.own 1 T.length),(2,.c (.int .i64 d)),(7,.ptr 228 0)]) (fob [(0,.box 83 (.c (tp L a4))),(1,.row 40 7 (T.map Nd.cv)),(228,.box 40 (.c (Nd.cv ⟨k,N,c,rq0⟩)))]) 700→K fr ob nx:=by
   rintro k c N a4 fr ob nx ⟨hc1,hc3⟩ hk1 hnode ha4 hf;refine hK _ _ _ (bF hf ?_);clear hf hK K;refine aC fun K hK=>Rg ?_;iterate 5 refine S0 ?_
   refine T2 (hK _ _ _ ?_);clear hK K;refine aC fun K hK=>?_;refine R0 ?_;refine aM ?_;refine bI (α:={w:List Nd×Nat×Nat//MadeK (d-1) T.length w.2.1 w.1∧w.2.2≤a+4+w.2.1*aB (d-1)∧(w.2.1:Int)≤c∧w.1.length≤60*w.2.1}) (fun w=>(fin [(0,.ptr 0 0),(1,.own 1 (T.length+1+w.1.1.length)),(2,.c (.int .i64 d)),(7,.ptr 228 0),(8,.c (.int .i64 w.1.2.1))],fob [(0,.box 83 (.c (tp L w.1.2.2))),(1,.row 40 7 ((T++⟨k,N,c,rq0⟩::w.1.1).map Nd.cv)),(228,.box 40 (.c (Nd.cv ⟨k,N,c,rq0⟩)))])) 2000 (fun w=>10-w.1.2.1) ⟨([],0,a4),MadeK.zero _ _,by simp only;omega,by simp only;omega,by simp⟩ (fF) ?_;rintro⟨⟨ts,j,a5⟩,i1,i2,i3,i4⟩;simp only at i1 i2 i3 i4;refine aC fun K hK=>?_;refine aC fun K hK=>Rg ?_;iterate 4 refine S0 ?_
   refine T2 (hK _ _ _ ?_);clear hK K;refine aG (b:=decide ((j:Int)<c)) rfl (fun hb=>?_) (fun hb=>?_)
   ·
    have hjc:(j:Int)<c:=by simpa using hb
    clear hb;obtain⟨M,hM⟩: ∃M,M=T++⟨k,N,c,rq0⟩::ts:=⟨_,rfl⟩;have hMl:T.length+1+ts.length=M.length:=by rw[hM];simp;omega
    rw[←hM,hMl];have hwd:IntKind.i64.wrap ((d:Int)-1)=((d-1:Nat):Int):=by rw[IntWalk.i64_in _ (by omega)];omega
    have hab1:=aO2 (d-1) (by omega);have hj3:j≤2:=by omega
    have hja:j*aB (d-1)≤2*aB (d-1):=Nat.mul_le_mul_right _ hj3;have hdd:aB d=8+3*aB (d-1):=by
     obtain⟨e,rfl⟩: ∃e,d=e+1:=⟨d-1,by omega⟩;rfl
    refine aK ?_;refine T0 (hK _ _ _ ?_);clear hK K;refine aC fun K hK=>?_;refine aM ?_;refine Rg ?_;have F:=hwd;iterate 4 refine SF ?_
    refine HS rfl rfl fun K' hK'=>T6 ?_;refine eZ [0,1] (ih (d-1) (by omega) L a5 M (by omega) (by omega) (by omega) (by omega)) rfl ⟨rfl,rfl,trivial⟩ (by simp) (by simp) ⟨rfl,rfl,rfl,rfl⟩ (by simp[eH,HO.men,HV.men,HV.menL]) (by simp[HV.menL,HV.men]) ?_;rintro r os' ⟨t,a6,rfl,rfl,ht,ha6⟩;rw[bS1,bZ6];refine AX (hK' _ _ ?_);clear hK' K';refine SF ?_;refine T2 (hK _ _ _ ?_);clear hK K;refine aN (by kernel_rfl) ?_;refine TQ (IntWalk.i64_in ((j:Int)+1) (by omega)) ?_;have htl:=aO3 ht (by omega);have hnx:=i1.next (t:=t) (by rw[hMl];exact ht);refine⟨⟨(ts++t,j+1,a6),hnx,by simp only[Nat.add_mul,Nat.one_mul];omega,by simp only;omega,by simp only[List.length_append];omega⟩,?_,?_⟩
    ·
     have e1:M++t=T++⟨k,N,c,rq0⟩::(ts++t):=by rw[hM];simp
     have e2:(M++t).length=T.length+1+(ts++t).length:=by rw[e1];simp;omega
     simp only[];rw[←e1,←e2];exact fF
    show 10-(j+1)<10-j;omega
   have hjc:(j:Int)=c:=by simp at hb;omega
   have hj3:j≤3:=by omega
   have hja:j*aB (d-1)≤3*aB (d-1):=Nat.mul_le_mul_right _ hj3;obtain⟨d',rfl⟩: ∃d',d=d'+1:=⟨d-1,by omega⟩;simp only[Nat.add_sub_cancel]at i1 i2 hja;have hm:=i1.fin (x:=⟨k,N,c,rq0⟩) hT8 hnode hk1 hjc.symm (by omega) (by omega);refine bD (T3 ?_);clear hK K;refine AX (hK _ _ _ ?_);clear hK K;refine R0 ?_;refine aF (RT Tryz.results50 ?_);exact aO4 (t:=⟨k,N,c,rq0⟩::ts) rfl rfl (by simp;omega) rfl hm (by simp only[aB];omega)
  have hx3:=h4 (by omega);have hy3:=g4 (by omega);obtain⟨k,hk⟩: ∃k,k=IntKind.i64.wrap (2+x):=⟨_,rfl⟩;obtain⟨c,hc⟩: ∃c,c=IntKind.i64.wrap (1+y):=⟨_,rfl⟩;have hkx:k=2+x:=by rw[hk,hw2 x h2 (by omega)]
  have hcy:c=1+y:=by rw[hc,hw1 y g2 (by omega)]
  rw[←hk,←hc];clear hk hc h3 h4 g3 g4;refine R0 ?_;refine aG (b:=_) rfl (fun hb=>?_) (fun hb=>?_)
  ·
   refine Rg ?_;iterate 3 refine S0 ?_
   refine HS rfl rfl fun K' hK'=>T5 ?_;refine bJ (args:=[_]) (dP L a3 c (by omega) (by omega)) rfl (by simp) ⟨rfl,rfl,rfl,rfl⟩ ?_;rintro u v' ⟨z,a4,rfl,rfl,f1,f2,f3,f4⟩;refine AX (hK' _ _ ?_);clear hK' K';iterate 3 refine S0 ?_
   refine T4 ?_;have f5:=f4 (by omega);have hk4:k=4:=by simpa using hb
   exact key2 k c (IntKind.i64.wrap (1+z)) a4 _ _ _ ⟨by omega,by omega⟩ (by omega) (by rw[hw1 z f2 (by omega),bR,if_neg (by simp only;omega),if_neg (by simp only;omega),if_pos hk4];simp[inB,fI];omega) (by omega) (aL (by omega) (by simp[aS,fin_at,finA_at,upd_at,HV.men,HV.menL,HV.norm,HV.toC,HV.toCL,Nd.cv,rq0]) (by simp[aT,fob_at,upd_at,none0_at,bL,HO.men,HV.men,HV.menL,HV.norm,HV.toC,HV.toCL,Nd.cv,rq0]))
  refine aK (T3 ?_);have hk4: ¬k=4:=by simpa using hb
  exact key2 k c 0 a3 _ _ _ ⟨by omega,by omega⟩ (by omega) (by rw[bR,if_neg (by simp only;omega),if_pos (by simp only;omega)];simp[inB,fI];omega) (by omega) (aL (by omega) (by simp[aS,fin_at,finA_at,upd_at,HV.men,HV.menL,HV.norm,HV.toC,HV.toCL,Nd.cv,rq0]) (by simp[aT,fob_at,upd_at,none0_at,bL,HO.men,HV.men,HV.menL,HV.norm,HV.toC,HV.toCL,Nd.cv,rq0]))
 refine Rg ?_;iterate 3 refine S0 ?_
 refine aE 10 rfl (fun h1_10=>?_) (fun h1_10=>?_)
 ·
  have F:=h1_10;iterate 9 refine SF ?_
  refine T4 ?_;exact key true a _ _ _ (fun h=>by cases h) (by omega) (fF)
 have F:=h1_10;refine SF ?_;refine bE (g:=some (11,false)) rfl rfl fun K' hK'=>T6 ?_;refine bJ (args:=[_]) (dP L a 3 (by omega) (by omega)) rfl (by simp) ⟨rfl,rfl,rfl,rfl⟩ ?_;rintro u v' ⟨x,a1,rfl,rfl,h1,h2,h3,h4⟩;refine AX (hK' _ _ ?_);clear hK' K';iterate 3 refine SF ?_
 refine aE 14 rfl (fun h1_14=>?_) (fun h1_14=>?_)
 ·
  have F:=aI h1_10 h1_14;iterate 4 refine SF ?_
  refine T4 ?_;exact key true a1 _ _ _ (fun h=>by cases h) h1 (fF)
 have F:=aI h1_10 h1_14;iterate 4 refine SF ?_
 refine aE 19 rfl (fun h1_19=>?_) (fun h1_19=>?_)
 · simp only[h1_19];refine T4 ?_;exact key true a1 _ _ _ (fun h=>by cases h) h1 (fF)
 simp only[h1_19];refine T4 ?_;exact key false a1 _ _ _ (fun _=>⟨by simp at h1_10;omega,by simp at h1_19;omega⟩) h1 (fF)
end Go.Proofs.YtlldglbooaefhaaGreatDoor
