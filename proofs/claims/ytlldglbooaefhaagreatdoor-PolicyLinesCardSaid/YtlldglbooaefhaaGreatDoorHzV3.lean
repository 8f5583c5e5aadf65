/- Part of a proof: walks of functions of the program, by contracts, and the rules they use. By an AI agent. -/
import Derived.Test.YtlldglbooaefhaaGreatDoorHzU1
import Derived.Test.YtlldglbooaefhaaGreatDoorPl28q
import Derived.Test.YtlldglbooaefhaaGreatDoorHlTlaw
import Derived.Test.YtlldglbooaefhaaGreatDoorPl03e
import Derived.Test.YtlldglbooaefhaaGreatDoorPl11w
import Derived.Test.YtlldglbooaefhaaGreatDoorHlIt
set_option linter.unusedSimpArgs false
set_option linter.unusedVariables false
set_option linter.defProp false
namespace Go.Proofs.YtlldglbooaefhaaGreatDoor
open Go Go.Hl Go.Pl
set_option maxRecDepth 10000
set_option maxHeartbeats 16000000
def aI6 (p:Po):Bool:=!dU p.n||(decide (p.v<1)||(decide ((1099511627776:Int)<p.v)||decide ((16:Int)<p.r.length)))
theorem bE3 (p:Po):aI6 p=vE p:=by
 have h1:decide (p.v<1)=!decide (1≤p.v):=by rw[←decide_not];exact decide_eq_decide.2 (by omega)
 have h2:decide ((1099511627776:Int)<p.v)=!decide (p.v≤1099511627776):=by rw[←decide_not];exact decide_eq_decide.2 (by omega)
 rw[aI6,vE,inB,h1,h2];cases dU p.n<;>cases decide (1≤p.v)<;>cases decide (p.v≤1099511627776)<;>rfl
def aI7 (r:Pr):Bool:=!dU r.a||(!(fL r.b).isSome||(!(fL r.c).isSome||(!inN r.g||!dV r.t)))
theorem aY6 (l:List Pr)(r:Pr):aY5 l r=((l.map Pr.a).contains r.a||aI7 r):=rfl
theorem bL2 (p:Po)(hp:PoSz p):cG Tryz.prog 30 [p.cv] (fun v=>v= .bool (eY p)):=by
 have hpn:=hp.n;have hpr:=hp.r;refine FW Tryz.func30 ?_;refine R0 ?_;refine aB fun K hK=>?_;refine aB fun K hK=>?_;have key: ∀(b:Bool) fr ob nx,b=aI6 p→Fits 0 fr ob (fin [(1,.ptr 0 0),(25,.c (.bool b))]) (fob [(0,.box 45 (.c p.cv))]) 600→K fr ob nx:=by
  rintro b fr ob nx rfl hf;refine hK _ _ _ (bH hf ?_);clear hf hK K;refine aG (b:=aI6 p) rfl (fun hb=>?_) (fun hb=>?_)
  · refine R0 ?_;refine aE (RT Tryz.results30 ?_);exact aH [] (.bool false) rfl (by rw[aD1 (by rw[←bE3];exact hb)])
  refine aJ ?_;refine T0 (hK _ _ _ ?_);clear hK K;refine aB fun K hK=>?_;refine R0 ?_;refine aN ?_;have hhead:=hb;rw[bE3]at hhead;clear hb;refine bS (α:={i:Nat//RlSt p.r i}) (fun i=>(fin [(1,.ptr 0 0),(3,.c (.int .i64 i.1))],fob [(0,.box 45 (.c p.cv))])) 2000 (fun i=>p.r.length-i.1) ⟨0,RlSt.zero p.r⟩ (fF) ?_;rintro⟨i,hΦ⟩;refine aB fun K hK=>?_;refine aB fun K hK=>Rg ?_;iterate 5 refine S0 ?_
  refine T2 (hK _ _ _ ?_);clear hK K;refine aG (b:=decide ((i:Int)<p.r.length)) rfl (fun hb=>?_) (fun hb=>?_)
  ·
   have hlt:i<p.r.length:=by simpa using hb
   clear hb;obtain⟨r,hr⟩: ∃r,r=p.r[i]:=⟨_,rfl⟩;have hmem:r∈p.r:=by rw[hr];exact List.getElem_mem hlt
   have hra:=hp.a r hmem;have hrt:=hp.t r hmem;refine aJ ?_;refine T0 (hK _ _ _ ?_);clear hK K;refine aB fun K hK=>?_;refine aN ?_;refine aB fun K hK=>Rg ?_;iterate 7 refine S0 ?_ (e:=fun _ h_=>by simp only[sH,↓sP,sA,tyS,simprocAttr,Int.natCast_nonneg,Int.ofNat_lt,hlt,bR hlt,←hr];exact AX h_)
   refine T2 (hK _ _ _ ?_);clear hK K;refine aB fun K hK=>?_;refine aB fun K hK=>?_;have key: ∀(b:Bool) fr ob nx,b=aI7 r→Fits 0 fr ob (fin [(1,.ptr 0 0),(3,.c (.int .i64 i)),(4,.ptr 2040 0),(65,.c (.bool b))]) (fob [(0,.box 45 (.c p.cv)),(2040,.box 54 (.c r.cv))]) 3000→K fr ob nx:=by
    rintro b fr ob nx rfl hf;refine hK _ _ _ (bH hf ?_);clear hf hK K;refine aG (b:=aI7 r) rfl (fun hb=>?_) (fun hb=>?_)
    · refine R0 ?_;refine aE (RT Tryz.results30 ?_);exact aH [] (.bool false) rfl (by rw[aI5 (aI4 hlt (by rw[aY6,←hr,hb,Bool.or_true]))])
    refine aJ ?_;refine T0 (hK _ _ _ ?_);clear hK K;refine R0 ?_;refine aN ?_;have hbn:=hb;clear hb;refine bS (α:={k:Nat//k≤i∧((p.r.take k).map Pr.a).contains r.a=false}) (fun k=>(fin [(1,.ptr 0 0),(3,.c (.int .i64 i)),(4,.ptr 2040 0),(5,.c (.int .i64 k.1))],fob [(0,.box 45 (.c p.cv)),(2040,.box 54 (.c r.cv))])) 5000 (fun k=>i-k.1) ⟨0,by omega,rfl⟩ (fF) ?_;rintro⟨k,hk,hno⟩;refine aB fun K hK=>?_;refine R0 ?_;refine aG (b:=decide ((k:Int)<(i:Int))) rfl (fun hb=>?_) (fun hb=>?_)
    ·
     have hki:k<i:=by simpa using hb
     have hkl:k<p.r.length:=by omega
     clear hb;refine aJ ?_;refine T0 (hK _ _ _ ?_);clear hK K;refine aB fun K hK=>?_;refine aN ?_;refine aB fun K hK=>QR ?_;have F:=aI @Int.natCast_nonneg (aI @Int.ofNat_lt (aI hkl (nM hkl)));iterate 9 refine SF ?_
     refine T2 (hK _ _ _ ?_);clear hK K;refine aG (b:=p.r[k].a==r.a) rfl (fun hb=>?_) (fun hb=>?_)
     ·
      refine R0 ?_;refine aE (RT Tryz.results30 ?_);have he:p.r[k].a=r.a:=by simpa using hb
      have hc:((p.r.take i).map Pr.a).contains r.a=true:=by
       rw[List.contains_iff_mem,←he];exact List.mem_map_of_mem (List.mem_iff_getElem.2 ⟨k,by simp;omega,by simp⟩)
      exact aH [] (.bool false) rfl (by rw[aI5 (aI4 hlt (by rw[aY6,←hr,hc,Bool.true_or]))])
     refine aJ ?_;refine T0 (hK _ _ _ ?_);clear hK K;refine aK (by kernel_rfl) ?_;refine TQ (IntWalk.i64_in ((k:Int)+1) (by omega)) ?_;have he:(r.a==p.r[k].a)=false:=by
      rw[beq_eq_false_iff_ne]at hb⊢;exact fun h=>hb h.symm
     refine⟨⟨k+1,hki,by rw[List.take_succ_eq_append_getElem hkl];simp only[List.map_append,List.contains_append,hno,List.map_cons,List.map_nil,List.contains_cons,List.contains_nil,he,Bool.or_false]⟩,fF,?_⟩;show i-(k+1)<i-k;omega
    refine bI (T3 ?_);clear hK K;refine AX (hK _ _ _ ?_);clear hK K;have hke:k=i:=by simp at hb;omega
    subst hke;have hΦ2:=hΦ.succ hlt (by rw[aY6,←hr,hno,hbn];rfl);clear hb;refine aK (by kernel_rfl) ?_;refine TQ (IntWalk.i64_in ((k:Int)+1) (by omega)) ?_;refine⟨⟨k+1,hΦ2⟩,fF,?_⟩;show p.r.length-(k+1)<p.r.length-k;omega
   refine Rg ?_;iterate 2 refine S0 ?_
   refine HS rfl rfl fun K' hK'=>T5 ?_;refine C1 (xH r.a (by omega)) ?_;rintro u rfl;refine AX (hK' _ _ ?_);clear hK' K';iterate 2 refine S0 ?_
   refine aD 40 rfl (fun h7_40=>?_) (fun h7_40=>?_)
   ·
    have F:=h7_40;iterate 2 refine SF ?_
    refine aP (g:=some (42,false)) rfl rfl fun K' hK'=>T6 ?_;refine C1 (aQ9 r.b) ?_;rintro u rfl;refine AX (hK' _ _ ?_);clear hK' K';iterate 3 refine SF ?_
    refine aD 45 rfl (fun h7_45=>?_) (fun h7_45=>?_)
    ·
     have F:=aI h7_40 h7_45;iterate 2 refine SF ?_
     refine aP (g:=some (48,false)) rfl rfl fun K' hK'=>T6 ?_;refine C1 (aQ9 r.c) ?_;rintro u rfl;refine AX (hK' _ _ ?_);clear hK' K';iterate 3 refine SF ?_
     refine aD 51 rfl (fun h7_51=>?_) (fun h7_51=>?_)
     ·
      have F:=aI h7_40 (aI h7_45 h7_51);iterate 2 refine SF ?_
      refine aP (g:=some (54,false)) rfl rfl fun K' hK'=>T6 ?_;refine C1 (xG r.g) ?_;rintro u rfl;refine AX (hK' _ _ ?_);clear hK' K';iterate 3 refine SF ?_
      refine aD 57 rfl (fun h7_57=>?_) (fun h7_57=>?_)
      ·
       have F:=aI h7_40 (aI h7_45 (aI h7_51 h7_57));iterate 2 refine SF ?_
       refine aP (g:=some (60,false)) rfl rfl fun K' hK'=>T6 ?_;refine C1 (bW0 r.t hrt) ?_;rintro u rfl;refine AX (hK' _ _ ?_);clear hK' K';iterate 2 refine SF ?_
       refine aD 63 rfl (fun h7_63=>?_) (fun h7_63=>?_)
       · simp only[h7_63];refine T4 ?_;exact key false _ _ _ (by simp only[aI7,h7_40,h7_45,h7_51,h7_57,h7_63,Bool.not_true,Bool.not_false,Bool.true_or,Bool.false_or]) (fF)
       simp only[h7_63];refine T4 ?_;exact key true _ _ _ (by simp only[aI7,h7_40,h7_45,h7_51,h7_57,h7_63,Bool.not_true,Bool.not_false,Bool.true_or,Bool.false_or]) (fF)
      have F:=aI h7_40 (aI h7_45 (aI h7_51 h7_57));iterate 5 refine SF ?_
      refine T4 ?_;exact key true _ _ _ (by simp only[aI7,h7_40,h7_45,h7_51,h7_57,Bool.not_true,Bool.not_false,Bool.true_or,Bool.false_or]) (fF)
     have F:=aI h7_40 (aI h7_45 h7_51);iterate 11 refine SF ?_
     refine T4 ?_;exact key true _ _ _ (by simp only[aI7,h7_40,h7_45,h7_51,Bool.not_true,Bool.not_false,Bool.true_or,Bool.false_or]) (fF)
    have F:=aI h7_40 h7_45;iterate 17 refine SF ?_
    refine T4 ?_;exact key true _ _ _ (by simp only[aI7,h7_40,h7_45,Bool.not_true,Bool.not_false,Bool.true_or,Bool.false_or]) (fF)
   have F:=h7_40;iterate 23 refine SF ?_
   refine T4 ?_;exact key true _ _ _ (by simp only[aI7,h7_40,Bool.not_true,Bool.not_false,Bool.true_or,Bool.false_or]) (fF)
  refine bI (T3 ?_);clear hK K;refine AX (hK _ _ _ ?_);clear hK K;refine R0 ?_;refine aE (RT Tryz.results30 ?_);have hie:i=p.r.length:=by have:=hΦ.le;simp at hb;omega
  subst hie;exact aH [] (.bool true) rfl (by rw[aS1 hhead hΦ])
 refine Rg ?_;iterate 2 refine S0 ?_
 refine HS rfl rfl fun K' hK'=>T5 ?_;refine C1 (xH p.n (by omega)) ?_;rintro u rfl;refine AX (hK' _ _ ?_);clear hK' K';iterate 2 refine S0 ?_
 refine aD 8 rfl (fun h1_8=>?_) (fun h1_8=>?_)
 ·
  have F:=h1_8;iterate 5 refine SF ?_
  refine aD 13 rfl (fun h1_13=>?_) (fun h1_13=>?_)
  ·
   have F:=aI h1_8 h1_13;iterate 10 refine SF ?_
   refine T4 ?_;exact key true _ _ _ (by simp only[aI6,h1_8,h1_13,Bool.not_true,Bool.not_false,Bool.true_or,Bool.false_or]) (fF)
  have F:=aI h1_8 h1_13;iterate 5 refine SF ?_
  refine aD 18 rfl (fun h1_18=>?_) (fun h1_18=>?_)
  ·
   have F:=aI h1_8 (aI h1_13 h1_18);iterate 5 refine SF ?_
   refine T4 ?_;exact key true _ _ _ (by simp only[aI6,h1_8,h1_13,h1_18,Bool.not_true,Bool.not_false,Bool.true_or,Bool.false_or]) (fF)
  have F:=aI h1_8 (aI h1_13 h1_18);iterate 5 refine SF ?_
  refine aD 24 rfl (fun h1_24=>?_) (fun h1_24=>?_)
  · simp only[h1_24];refine T4 ?_;exact key true _ _ _ (by simp only[aI6,h1_8,h1_13,h1_18,h1_24,Bool.not_true,Bool.not_false,Bool.true_or,Bool.false_or]) (fF)
  simp only[h1_24];refine T4 ?_;exact key false _ _ _ (by simp only[aI6,h1_8,h1_13,h1_18,h1_24,Bool.not_true,Bool.not_false,Bool.true_or,Bool.false_or]) (fF)
 have F:=h1_8;iterate 15 refine SF ?_
 refine T4 ?_;exact key true _ _ _ (by simp only[aI6,h1_8,Bool.not_true,Bool.not_false,Bool.true_or,Bool.false_or]) (fF)
structure Few (p:Po):Prop where
 r:p.r.length≤20
 n:p.n.length≤100
 t: ∀r∈p.r,r.t.length≤70
theorem cF1 (s:aF):gT Tryz.prog 107 [.str s] (fun u v=>u= .int .i64 ((bL s).getD 0)∧v= .bool (bL s).isSome):=by
 refine FW Tryz.func107 ?_;refine R0 ?_;refine aB fun K hK=>?_;have key: ∀fr ob nx,fD s=false→Fits 0 fr ob (fin [(0,.c (.str s))]) (fob []) 100→K fr ob nx:=by
  intro fr ob nx hbad hf;refine hK _ _ _ (bH hf ?_);clear hf hK K;have hlen:s.length≤13:=by
   simp only[fD,Bool.or_eq_false_iff,decide_eq_false_iff_not]at hbad;omega
  refine R0 ?_;refine aB fun K hK=>?_;refine R0 ?_;refine aN ?_;refine bS (α:={y:Nat×Nat//DgSt s y.1 y.2}) (fun y=>(fin [(0,.c (.str s)),(4,.c (.int .i64 y.1.2)),(5,.c (.int .i64 y.1.1))],fob [])) 200 (fun y=>s.length-y.1.1) ⟨(0,0),DgSt.init s⟩ (fF) ?_;rintro⟨⟨i,n⟩,hst⟩;simp only at hst;have hi:=hst.1;have hnl:=hst.lt hlen;refine aB fun K hK=>?_;refine aB fun K hK=>Rg ?_;iterate 4 refine S0 ?_
  refine T2 (hK _ _ _ ?_);clear hK K;refine aG (b:=decide ((i:Int)<s.length)) rfl (fun hb=>?_) (fun hb=>?_)
  ·
   have hlt:i<s.length:=by simpa using hb
   clear hb;have hgd:s.getD i 0=s[i]:=by simp[hlt]
   have hdi:=aO8 s[i];refine aJ ?_;refine T0 (hK _ _ _ ?_);clear hK K;refine aB fun K hK=>?_;refine aN ?_;refine aB fun K hK=>?_;have key2: ∀fr ob nx,jK s[i]=true→Fits 0 fr ob (fin [(0,.c (.str s)),(4,.c (.int .i64 n)),(5,.c (.int .i64 i))]) (fob []) 300→K fr ob nx:=by
    intro fr ob nx hd hf;refine hK _ _ _ (bH hf ?_);clear hf hK K;have hd2:48≤s[i].toNat∧s[i].toNat≤57:=by simpa[jK]using hd
    have e1:IntKind.i64.wrap (10*(n:Int))=((10*n:Nat):Int):=by rw[IntWalk.i64_in _ (by omega)];omega
    have e2:IntKind.u8.wrap ((s[i].toNat:Int)-48)=((s[i].toNat-48:Nat):Int):=by rw[IntWalk.u8_in _ (by omega)];omega
    have e3:IntKind.i64.wrap ((s[i].toNat-48:Nat):Int)=((s[i].toNat-48:Nat):Int):=by rw[IntWalk.i64_in _ (by omega)]
    have e4:IntKind.i64.wrap (((10*n:Nat):Int)+((s[i].toNat-48:Nat):Int))=((10*n+(s[i].toNat-48):Nat):Int):=by rw[IntWalk.i64_in _ (by omega)];omega
    refine Rg ?_;iterate 9 refine S0 ?_ (e:=fun _ h_=>by simp only[sH,↓sP,sA,tyS,simprocAttr,Int.natCast_nonneg,Int.ofNat_lt,hlt,hgd,e1,e2,e3,e4];exact AX h_)
    refine T2 (hK _ _ _ ?_);clear hK K;refine aK (by kernel_rfl) ?_;refine TQ (iH i) ?_;refine⟨⟨(i+1,10*n+(s[i].toNat-48)),hst.next hlt hd⟩,fF,?_⟩;show s.length-(i+1)<s.length-i;omega
   refine aB fun K hK=>Rg ?_;iterate 5 refine S0 ?_ (e:=fun _ h_=>by simp only[sH,↓sP,sA,tyS,simprocAttr,Int.natCast_nonneg,Int.ofNat_lt,hlt,hgd];exact AX h_)
   refine aD 33 rfl (fun h7_33=>?_) (fun h7_33=>?_)
   ·
    iterate 5 refine S0 ?_ (e:=fun _ h_=>by simp only[sH,↓sP,sA,tyS,simprocAttr,Int.natCast_nonneg,Int.ofNat_lt,hlt,hgd,h7_33];exact AX h_)
    refine T2 (hK _ _ _ ?_);clear hK K;refine CT rfl ?_;refine R0 ?_;refine aE (RT Tryz.results107 ?_);have hd:jK s[i]=false:=by simp only[jK,Bool.and_eq_false_iff,decide_eq_false_iff_not];simp at h7_33;omega
    have hn:=oZ (hst.bad hlt hd);exact aO [] (.int .i64 0) (.bool false) rfl ⟨by rw[hn];rfl,by rw[hn];rfl⟩
   iterate 5 refine S0 ?_ (e:=fun _ h_=>by simp only[sH,↓sP,sA,tyS,simprocAttr,Int.natCast_nonneg,Int.ofNat_lt,hlt,hgd,h7_33];exact AX h_)
   refine aD 38 rfl (fun h7_38=>?_) (fun h7_38=>?_)
   ·
    simp only[h7_38];refine T2 (hK _ _ _ ?_);clear hK K;refine CT rfl ?_;refine R0 ?_;refine aE (RT Tryz.results107 ?_);have hd:jK s[i]=false:=by simp only[jK,Bool.and_eq_false_iff,decide_eq_false_iff_not];simp at h7_38;omega
    have hn:=oZ (hst.bad hlt hd);exact aO [] (.int .i64 0) (.bool false) rfl ⟨by rw[hn];rfl,by rw[hn];rfl⟩
   simp only[h7_38];refine T2 (hK _ _ _ ?_);clear hK K;refine CF rfl ?_;refine aJ (T3 ?_);exact key2 _ _ _ (by simp only[jK,Bool.and_eq_true,decide_eq_true_eq];simp at h7_33 h7_38;omega) (fF)
  refine bI (T3 ?_);clear hK K;refine AX (hK _ _ _ ?_);clear hK K;refine aB fun K hK=>?_;have hfin:=hst.fin (by simp at hb;omega);clear hb;refine R0 ?_;refine aG (b:=decide ((1099511627776:Int)<(n:Int))) rfl (fun hb=>?_) (fun hb=>?_)
  · refine R0 ?_;refine aE (RT Tryz.results107 ?_);have hn:=aO7 hfin (by simp at hb;omega);exact aO [] (.int .i64 0) (.bool false) rfl ⟨by rw[hn];rfl,by rw[hn];rfl⟩
  refine aJ ?_;refine T0 (hK _ _ _ ?_);clear hK K;refine R0 ?_;refine aE (RT Tryz.results107 ?_);have hn:=aG5 hbad hfin (by simp at hb;omega);exact aO [] (.int .i64 n) (.bool true) rfl ⟨by rw[hn];rfl,by rw[hn];rfl⟩
 refine aB fun K hK=>Rg ?_;iterate 4 refine S0 ?_
 refine aD 8 rfl (fun h1_8=>?_) (fun h1_8=>?_)
 ·
  have F:=h1_8;iterate 14 refine SF ?_
  refine T2 (hK _ _ _ ?_);clear hK K;refine CT rfl ?_;refine R0 ?_;refine aE (RT Tryz.results107 ?_);have hn:bL s=none:=nU (by simp only[fD,Bool.or_eq_true,decide_eq_true_eq];simp at h1_8;left;left;omega);exact aO [] (.int .i64 0) (.bool false) rfl ⟨by rw[hn];rfl,by rw[hn];rfl⟩
 have F:=h1_8;iterate 5 refine SF ?_
 refine aD 12 rfl (fun h1_12=>?_) (fun h1_12=>?_)
 ·
  have F:=aI h1_8 h1_12;iterate 9 refine SF ?_
  refine T2 (hK _ _ _ ?_);clear hK K;refine CT rfl ?_;refine R0 ?_;refine aE (RT Tryz.results107 ?_);have hn:bL s=none:=nU (by simp only[fD,Bool.or_eq_true,decide_eq_true_eq];simp at h1_12;left;right;omega);exact aO [] (.int .i64 0) (.bool false) rfl ⟨by rw[hn];rfl,by rw[hn];rfl⟩
 have F:=aI h1_8 h1_12;iterate 4 refine SF ?_
 refine aD 17 rfl (fun h1_17=>?_) (fun h1_17=>?_)
 ·
  have F:=aI h1_8 (aI h1_12 h1_17);refine SF ?_;refine aP (g:=some (18,true)) rfl rfl fun K' hK'=>T6 ?_;refine⟨by simp at h1_17;omega,?_⟩;refine AX (hK' _ _ ?_);clear hK' K';iterate 3 refine SF ?_
  refine aD 21 rfl (fun h1_21=>?_) (fun h1_21=>?_)
  ·
   simp only[h1_21];refine T2 (hK _ _ _ ?_);clear hK K;refine CT rfl ?_;refine R0 ?_;refine aE (RT Tryz.results107 ?_);have hn:bL s=none:=nU (by
    simp only[fD,Bool.or_eq_true,Bool.and_eq_true,decide_eq_true_eq,beq_iff_eq];right;refine⟨by simp at h1_17;omega,UInt8.toNat_inj.1 ?_⟩;simp only[beq_iff_eq]at h1_21;show(s.getD 0 0).toNat=48;omega)
   exact aO [] (.int .i64 0) (.bool false) rfl ⟨by rw[hn];rfl,by rw[hn];rfl⟩
  simp only[h1_21];refine T2 (hK _ _ _ ?_);clear hK K;refine CF rfl ?_;refine aJ (T3 ?_);refine key _ _ _ ?_ (fF);simp only[fD,Bool.or_eq_false_iff,Bool.and_eq_false_iff,decide_eq_false_iff_not,beq_eq_false_iff_ne,ne_eq];simp only[decide_eq_false_iff_not,decide_eq_true_eq]at h1_8 h1_12;refine⟨⟨by omega,by omega⟩,?_⟩;first
   |(right;intro h0;rw[h0]at h1_21;simp at h1_21)
   |(left;simp at h1_17;omega)
 have F:=aI h1_8 (aI h1_12 h1_17);iterate 5 refine SF ?_
 refine T2 (hK _ _ _ ?_);clear hK K;refine CF rfl ?_;refine aJ (T3 ?_);refine key _ _ _ ?_ (fF);simp only[fD,Bool.or_eq_false_iff,Bool.and_eq_false_iff,decide_eq_false_iff_not,beq_eq_false_iff_ne,ne_eq];simp only[decide_eq_false_iff_not,decide_eq_true_eq]at h1_8 h1_12;refine⟨⟨by omega,by omega⟩,?_⟩;first
  |(right;intro h0;rw[h0]at h1_21;simp at h1_21)
  |(left;simp at h1_17;omega)
theorem bX2 (s:aF):gT Tryz.prog 109 [.str s] (fun u v=>u= .int .i64 ((bL s).getD 0)∧v= .bool (bL s).isSome):=by
 refine FW Tryz.func109 ?_;refine R0 ?_;refine aB fun K hK=>?_;have key: ∀fr ob nx,fD s=false→Fits 0 fr ob (fin [(0,.c (.str s))]) (fob []) 100→K fr ob nx:=by
  intro fr ob nx hbad hf;refine hK _ _ _ (bH hf ?_);clear hf hK K;have hlen:s.length≤13:=by
   simp only[fD,Bool.or_eq_false_iff,decide_eq_false_iff_not]at hbad;omega
  refine R0 ?_;refine aB fun K hK=>?_;refine R0 ?_;refine aN ?_;refine bS (α:={y:Nat×Nat//DgSt s y.1 y.2}) (fun y=>(fin [(0,.c (.str s)),(4,.c (.int .i64 y.1.2)),(5,.c (.int .i64 y.1.1))],fob [])) 200 (fun y=>s.length-y.1.1) ⟨(0,0),DgSt.init s⟩ (fF) ?_;rintro⟨⟨i,n⟩,hst⟩;simp only at hst;have hi:=hst.1;have hnl:=hst.lt hlen;refine aB fun K hK=>?_;refine aB fun K hK=>Rg ?_;iterate 4 refine S0 ?_
  refine T2 (hK _ _ _ ?_);clear hK K;refine aG (b:=decide ((i:Int)<s.length)) rfl (fun hb=>?_) (fun hb=>?_)
  ·
   have hlt:i<s.length:=by simpa using hb
   clear hb;have hgd:s.getD i 0=s[i]:=by simp[hlt]
   have hdi:=aO8 s[i];refine aJ ?_;refine T0 (hK _ _ _ ?_);clear hK K;refine aB fun K hK=>?_;refine aN ?_;refine aB fun K hK=>?_;have key2: ∀fr ob nx,jK s[i]=true→Fits 0 fr ob (fin [(0,.c (.str s)),(4,.c (.int .i64 n)),(5,.c (.int .i64 i))]) (fob []) 300→K fr ob nx:=by
    intro fr ob nx hd hf;refine hK _ _ _ (bH hf ?_);clear hf hK K;have hd2:48≤s[i].toNat∧s[i].toNat≤57:=by simpa[jK]using hd
    have e1:IntKind.i64.wrap (10*(n:Int))=((10*n:Nat):Int):=by rw[IntWalk.i64_in _ (by omega)];omega
    have e2:IntKind.u8.wrap ((s[i].toNat:Int)-48)=((s[i].toNat-48:Nat):Int):=by rw[IntWalk.u8_in _ (by omega)];omega
    have e3:IntKind.i64.wrap ((s[i].toNat-48:Nat):Int)=((s[i].toNat-48:Nat):Int):=by rw[IntWalk.i64_in _ (by omega)]
    have e4:IntKind.i64.wrap (((10*n:Nat):Int)+((s[i].toNat-48:Nat):Int))=((10*n+(s[i].toNat-48):Nat):Int):=by rw[IntWalk.i64_in _ (by omega)];omega
    refine Rg ?_;iterate 9 refine S0 ?_ (e:=fun _ h_=>by simp only[sH,↓sP,sA,tyS,simprocAttr,Int.natCast_nonneg,Int.ofNat_lt,hlt,hgd,e1,e2,e3,e4];exact AX h_)
    refine T2 (hK _ _ _ ?_);clear hK K;refine aK (by kernel_rfl) ?_;refine TQ (iH i) ?_;refine⟨⟨(i+1,10*n+(s[i].toNat-48)),hst.next hlt hd⟩,fF,?_⟩;show s.length-(i+1)<s.length-i;omega
   refine aB fun K hK=>Rg ?_;iterate 5 refine S0 ?_ (e:=fun _ h_=>by simp only[sH,↓sP,sA,tyS,simprocAttr,Int.natCast_nonneg,Int.ofNat_lt,hlt,hgd];exact AX h_)
   refine aD 32 rfl (fun h7_32=>?_) (fun h7_32=>?_)
   ·
    iterate 5 refine S0 ?_ (e:=fun _ h_=>by simp only[sH,↓sP,sA,tyS,simprocAttr,Int.natCast_nonneg,Int.ofNat_lt,hlt,hgd,h7_32];exact AX h_)
    refine T2 (hK _ _ _ ?_);clear hK K;refine CT rfl ?_;refine R0 ?_;refine aE (RT Tryz.results109 ?_);have hd:jK s[i]=false:=by simp only[jK,Bool.and_eq_false_iff,decide_eq_false_iff_not];simp at h7_32;omega
    have hn:=oZ (hst.bad hlt hd);exact aO [] (.int .i64 0) (.bool false) rfl ⟨by rw[hn];rfl,by rw[hn];rfl⟩
   iterate 5 refine S0 ?_ (e:=fun _ h_=>by simp only[sH,↓sP,sA,tyS,simprocAttr,Int.natCast_nonneg,Int.ofNat_lt,hlt,hgd,h7_32];exact AX h_)
   refine aD 37 rfl (fun h7_37=>?_) (fun h7_37=>?_)
   ·
    simp only[h7_37];refine T2 (hK _ _ _ ?_);clear hK K;refine CT rfl ?_;refine R0 ?_;refine aE (RT Tryz.results109 ?_);have hd:jK s[i]=false:=by simp only[jK,Bool.and_eq_false_iff,decide_eq_false_iff_not];simp at h7_37;omega
    have hn:=oZ (hst.bad hlt hd);exact aO [] (.int .i64 0) (.bool false) rfl ⟨by rw[hn];rfl,by rw[hn];rfl⟩
   simp only[h7_37];refine T2 (hK _ _ _ ?_);clear hK K;refine CF rfl ?_;refine aJ (T3 ?_);exact key2 _ _ _ (by simp only[jK,Bool.and_eq_true,decide_eq_true_eq];simp at h7_32 h7_37;omega) (fF)
  refine bI (T3 ?_);clear hK K;refine AX (hK _ _ _ ?_);clear hK K;refine aB fun K hK=>?_;have hfin:=hst.fin (by simp at hb;omega);clear hb;refine R0 ?_;refine aG (b:=decide ((1099511627776:Int)<(n:Int))) rfl (fun hb=>?_) (fun hb=>?_)
  · refine R0 ?_;refine aE (RT Tryz.results109 ?_);have hn:=aO7 hfin (by simp at hb;omega);exact aO [] (.int .i64 0) (.bool false) rfl ⟨by rw[hn];rfl,by rw[hn];rfl⟩
  refine aJ ?_;refine T0 (hK _ _ _ ?_);clear hK K;refine R0 ?_;refine aE (RT Tryz.results109 ?_);have hn:=aG5 hbad hfin (by simp at hb;omega);exact aO [] (.int .i64 n) (.bool true) rfl ⟨by rw[hn];rfl,by rw[hn];rfl⟩
 refine aB fun K hK=>Rg ?_;iterate 3 refine S0 ?_
 refine aD 7 rfl (fun h1_7=>?_) (fun h1_7=>?_)
 ·
  have F:=h1_7;iterate 14 refine SF ?_
  refine T2 (hK _ _ _ ?_);clear hK K;refine CT rfl ?_;refine R0 ?_;refine aE (RT Tryz.results109 ?_);have hs:s=[]:=by simpa using h1_7
  subst hs;exact aO [] (.int .i64 0) (.bool false) rfl ⟨rfl,rfl⟩
 have F:=h1_7;iterate 5 refine SF ?_
 refine aD 11 rfl (fun h1_11=>?_) (fun h1_11=>?_)
 ·
  have F:=aI h1_7 h1_11;iterate 9 refine SF ?_
  refine T2 (hK _ _ _ ?_);clear hK K;refine CT rfl ?_;refine R0 ?_;refine aE (RT Tryz.results109 ?_);have hn:bL s=none:=nU (by simp only[fD,Bool.or_eq_true,decide_eq_true_eq];simp at h1_11;left;right;omega);exact aO [] (.int .i64 0) (.bool false) rfl ⟨by rw[hn];rfl,by rw[hn];rfl⟩
 have F:=aI h1_7 h1_11;refine SF ?_;refine aP (g:=some (13,false)) rfl rfl fun K' hK'=>T6 ?_;refine⟨by have:=List.length_pos_iff.2 (show s≠[]by simpa using h1_7);omega,?_⟩;refine AX (hK' _ _ ?_);clear hK' K';iterate 2 refine SF ?_
 refine aD 16 rfl (fun h1_16=>?_) (fun h1_16=>?_)
 ·
  have F:=aI h1_7 (aI h1_11 h1_16);iterate 5 refine SF ?_
  refine aD 20 rfl (fun h1_20=>?_) (fun h1_20=>?_)
  ·
   simp only[h1_20];refine T2 (hK _ _ _ ?_);clear hK K;refine CT rfl ?_;refine R0 ?_;refine aE (RT Tryz.results109 ?_);have hn:bL s=none:=nU (by
    simp only[fD,Bool.or_eq_true,Bool.and_eq_true,decide_eq_true_eq,beq_iff_eq];right;refine⟨by simp at h1_20;omega,UInt8.toNat_inj.1 ?_⟩;simp only[beq_iff_eq]at h1_16;show(s.getD 0 0).toNat=48;omega)
   exact aO [] (.int .i64 0) (.bool false) rfl ⟨by rw[hn];rfl,by rw[hn];rfl⟩
  simp only[h1_20];refine T2 (hK _ _ _ ?_);clear hK K;refine CF rfl ?_;refine aJ (T3 ?_);refine key _ _ _ ?_ (fF);have hs:=List.length_pos_iff.2 (show s≠[]by simpa using h1_7);simp only[fD,Bool.or_eq_false_iff,Bool.and_eq_false_iff,decide_eq_false_iff_not,beq_eq_false_iff_ne,ne_eq];simp only[decide_eq_false_iff_not,decide_eq_true_eq]at h1_11;refine⟨⟨by omega,by omega⟩,?_⟩;first
   |(left;simp at h1_20;omega)
   |(right;intro h0;rw[h0]at h1_16;simp at h1_16)
 have F:=aI h1_7 (aI h1_11 h1_16);iterate 5 refine SF ?_
 refine T2 (hK _ _ _ ?_);clear hK K;refine CF rfl ?_;refine aJ (T3 ?_);refine key _ _ _ ?_ (fF);have hs:=List.length_pos_iff.2 (show s≠[]by simpa using h1_7);simp only[fD,Bool.or_eq_false_iff,Bool.and_eq_false_iff,decide_eq_false_iff_not,beq_eq_false_iff_ne,ne_eq];simp only[decide_eq_false_iff_not,decide_eq_true_eq]at h1_11;refine⟨⟨by omega,by omega⟩,?_⟩;first
  |(left;simp at h1_20;omega)
  |(right;intro h0;rw[h0]at h1_16;simp at h1_16)
theorem aS2 (c:UInt8):cG Tryz.prog 95 [.int .u8 c.toNat] (fun v=>v= .int .i64 (valH c:Nat)):=by
 refine FW Tryz.func95 ?_;refine R0 ?_;refine aB fun K hK=>?_;refine aB fun K hK=>Rg ?_;iterate 3 refine S0 ?_
 refine aD 4 rfl (fun h1_4=>?_) (fun h1_4=>?_)
 ·
  have F:=h1_4;iterate 3 refine SF ?_
  refine aD 7 rfl (fun h1_7=>?_) (fun h1_7=>?_)
  ·
   simp only[h1_7];refine T2 (hK _ _ _ ?_);clear hK K;refine CT rfl ?_;have e1:IntKind.u8.wrap ((c.toNat:Int)-48)=((c.toNat-48:Nat):Int):=by simp at h1_4 h1_7;rw[IntWalk.u8_in _ (by omega)];omega
   have e2:IntKind.i64.wrap ((c.toNat-48:Nat):Int)=((c.toNat-48:Nat):Int):=by have:=c.toNat_lt;rw[IntWalk.i64_in _ (by omega)]
   refine aB fun K hK=>Rg ?_;have F:=aI e1 (aI e2 (aI h1_4 h1_7));iterate 4 refine SF ?_
   refine T2 (hK _ _ _ ?_);clear hK K;refine aE (RT Tryz.results95 ?_);refine aH [] _ rfl ?_;simp only[decide_eq_true_eq,decide_eq_false_iff_not]at*;refine congrArg (CV.int IntKind.i64) ?_;unfold valH;split<;>(try split)<;>omega
  simp only[h1_7];refine T2 (hK _ _ _ ?_);clear hK K;refine CF rfl ?_;refine aJ ?_;refine T0 (hK _ _ _ ?_);clear hK K;refine aB fun K hK=>?_;refine aB fun K hK=>Rg ?_;have F:=aI h1_4 h1_7;iterate 3 refine SF ?_
  refine aD 13 rfl (fun h3_13=>?_) (fun h3_13=>?_)
  ·
   have F:=aI h1_4 (aI h1_7 h3_13);iterate 3 refine SF ?_
   refine aD 16 rfl (fun h3_16=>?_) (fun h3_16=>?_)
   ·
    simp only[h3_16];refine T2 (hK _ _ _ ?_);clear hK K;refine CT rfl ?_;have e1:IntKind.u8.wrap ((c.toNat:Int)-65)=((c.toNat-65:Nat):Int):=by simp at h3_13 h3_16;rw[IntWalk.u8_in _ (by omega)];omega
    have e2:IntKind.i64.wrap ((c.toNat-65:Nat):Int)=((c.toNat-65:Nat):Int):=by have:=c.toNat_lt;rw[IntWalk.i64_in _ (by omega)]
    have e3:IntKind.i64.wrap (((c.toNat-65:Nat):Int)+10)=((c.toNat-65+10:Nat):Int):=by have:=c.toNat_lt;rw[IntWalk.i64_in _ (by omega)];omega
    refine aB fun K hK=>Rg ?_;have F:=aI e1 (aI e2 (aI e3 (aI h1_4 (aI h1_7 (aI h3_13 h3_16)))));iterate 5 refine SF ?_
    refine T2 (hK _ _ _ ?_);clear hK K;refine aE (RT Tryz.results95 ?_);refine aH [] _ rfl ?_;simp only[decide_eq_true_eq,decide_eq_false_iff_not]at*;refine congrArg (CV.int IntKind.i64) ?_;unfold valH;split<;>(try split)<;>omega
   simp only[h3_16];refine T2 (hK _ _ _ ?_);clear hK K;refine CF rfl ?_;refine aJ ?_;refine T0 (hK _ _ _ ?_);clear hK K;refine R0 ?_;refine aE (RT Tryz.results95 ?_);refine aH [] _ rfl ?_;simp only[decide_eq_true_eq,decide_eq_false_iff_not]at*;refine congrArg (CV.int IntKind.i64) ?_;unfold valH;split<;>(try split)<;>omega
  have F:=aI h1_4 (aI h1_7 h3_13);iterate 3 refine SF ?_
  refine T2 (hK _ _ _ ?_);clear hK K;refine CF rfl ?_;refine aJ ?_;refine T0 (hK _ _ _ ?_);clear hK K;refine R0 ?_;refine aE (RT Tryz.results95 ?_);refine aH [] _ rfl ?_;simp only[decide_eq_true_eq,decide_eq_false_iff_not]at*;refine congrArg (CV.int IntKind.i64) ?_;unfold valH;split<;>(try split)<;>omega
 have F:=h1_4;iterate 3 refine SF ?_
 refine T2 (hK _ _ _ ?_);clear hK K;refine CF rfl ?_;refine aJ ?_;refine T0 (hK _ _ _ ?_);clear hK K;refine aB fun K hK=>?_;refine aB fun K hK=>Rg ?_;iterate 3 refine SF ?_
 refine aD 13 rfl (fun h3_13=>?_) (fun h3_13=>?_)
 ·
  have F:=aI h1_4 h3_13;iterate 3 refine SF ?_
  refine aD 16 rfl (fun h3_16=>?_) (fun h3_16=>?_)
  ·
   simp only[h3_16];refine T2 (hK _ _ _ ?_);clear hK K;refine CT rfl ?_;have e1:IntKind.u8.wrap ((c.toNat:Int)-65)=((c.toNat-65:Nat):Int):=by simp at h3_13 h3_16;rw[IntWalk.u8_in _ (by omega)];omega
   have e2:IntKind.i64.wrap ((c.toNat-65:Nat):Int)=((c.toNat-65:Nat):Int):=by have:=c.toNat_lt;rw[IntWalk.i64_in _ (by omega)]
   have e3:IntKind.i64.wrap (((c.toNat-65:Nat):Int)+10)=((c.toNat-65+10:Nat):Int):=by have:=c.toNat_lt;rw[IntWalk.i64_in _ (by omega)];omega
   refine aB fun K hK=>Rg ?_;have F:=aI e1 (aI e2 (aI e3 (aI h1_4 (aI h3_13 h3_16))));iterate 5 refine SF ?_
   refine T2 (hK _ _ _ ?_);clear hK K;refine aE (RT Tryz.results95 ?_);refine aH [] _ rfl ?_;simp only[decide_eq_true_eq,decide_eq_false_iff_not]at*;refine congrArg (CV.int IntKind.i64) ?_;unfold valH;split<;>(try split)<;>omega
  simp only[h3_16];refine T2 (hK _ _ _ ?_);clear hK K;refine CF rfl ?_;refine aJ ?_;refine T0 (hK _ _ _ ?_);clear hK K;refine R0 ?_;refine aE (RT Tryz.results95 ?_);refine aH [] _ rfl ?_;simp only[decide_eq_true_eq,decide_eq_false_iff_not]at*;refine congrArg (CV.int IntKind.i64) ?_;unfold valH;split<;>(try split)<;>omega
 have F:=aI h1_4 h3_13;iterate 3 refine SF ?_
 refine T2 (hK _ _ _ ?_);clear hK K;refine CF rfl ?_;refine aJ ?_;refine T0 (hK _ _ _ ?_);clear hK K;refine R0 ?_;refine aE (RT Tryz.results95 ?_);refine aH [] _ rfl ?_;simp only[decide_eq_true_eq,decide_eq_false_iff_not]at*;refine congrArg (CV.int IntKind.i64) ?_;unfold valH;split<;>(try split)<;>omega
theorem cF2 (s:aF)(hl:s.length<2^40):gT Tryz.prog 69 [.str s] (fun u v=>u= .str ((unW s).getD [])∧v= .bool (unW s).isSome):=by
 refine FW Tryz.func69 ?_;refine R0 ?_;refine aB fun K hK=>?_;refine R0 ?_;refine aG (b:=s==[126]) rfl (fun hb=>?_) (fun hb=>?_)
 ·
  refine R0 ?_;refine aE (RT Tryz.results69 ?_);have hs:s=[126]:=by simpa using hb
  subst hs;exact aO [] (.str []) (.bool true) rfl ⟨rfl,rfl⟩
 refine aJ ?_;refine T0 (hK _ _ _ ?_);clear hK K;refine aB fun K hK=>?_;have hne:s≠[126]:=by simpa using hb
 clear hb;refine R0 ?_;refine aG (b:=s==[]) rfl (fun hb=>?_) (fun hb=>?_)
 ·
  refine R0 ?_;refine aE (RT Tryz.results69 ?_);have hs:s=[]:=by simpa using hb
  subst hs;exact aO [] (.str []) (.bool false) rfl ⟨rfl,rfl⟩
 refine aJ ?_;refine T0 (hK _ _ _ ?_);clear hK K;have hne0:s≠[]:=by simpa using hb
 clear hb;refine R0 ?_;refine aB fun K hK=>?_;refine R0 ?_;refine aN ?_;refine kC 4 0 5 1 rfl rfl rfl rfl ?_;refine bS (α:={y:Nat×aF//UnSt s y.1 y.2}) (fun y=>(fin [(0,.c (.str s)),(4,.own 32 y.1.2.length),(5,.c (.int .i64 y.1.1))],fob [(32,.row 5 1 (y.1.2.map dM))])) 100 (fun y=>s.length-y.1.1) ⟨(0,[]),UnSt.init s⟩ (fF) ?_;rintro⟨⟨i,out⟩,hst⟩;simp only at hst;have hi:=hst.1;have ho:=hst.2.2.2;refine aB fun K hK=>?_;refine aB fun K hK=>Rg ?_;iterate 4 refine S0 ?_
 refine T2 (hK _ _ _ ?_);clear hK K;refine aG (b:=decide ((i:Int)<s.length)) rfl (fun hb=>?_) (fun hb=>?_)
 ·
  have hlt:i<s.length:=by simpa using hb
  clear hb;have hgd:s.getD i 0=s[i]:=by simp[hlt]
  refine aJ ?_;refine T0 (hK _ _ _ ?_);clear hK K;refine aB fun K hK=>?_;refine aN ?_;refine aB fun K hK=>?_;refine aB fun K hK=>Rg ?_;iterate 3 refine S0 ?_ (e:=fun _ h_=>by simp only[sH,↓sP,sA,tyS,simprocAttr,Int.natCast_nonneg,Int.ofNat_lt,hlt,hgd];exact AX h_)
  refine HS rfl rfl fun K' hK'=>?_;simp only[sH,↓sP,sA,tyS,simprocAttr,Int.natCast_nonneg,Int.ofNat_lt,hlt,hgd];refine C1 (tK s[i]) ?_;rintro u rfl;refine AX (hK' _ _ ?_);clear hK' K';refine T2 (hK _ _ _ ?_);clear hK K;refine aG (b:=cU s[i]) rfl (fun hb=>?_) (fun hb=>?_)
  ·
   refine aB fun K hK=>Rg ?_;iterate 7 refine S0 ?_ (e:=fun _ h_=>by simp only[sH,↓sP,sA,tyS,simprocAttr,Int.natCast_nonneg,Int.ofNat_lt,hlt,hgd,List.length_append,List.length_map];exact AX h_)
   refine T2 (hK _ _ _ ?_);clear hK K;refine bI (T3 ?_);clear hK K;refine AX (hK _ _ _ ?_);clear hK K;refine aK (by kernel_rfl) ?_;refine TQ (iH i) ?_;refine⟨⟨(i+1,out++[s[i]]),hst.plain hlt hb⟩,aL (by omega) ?_ ?_,?_⟩
   · simp[aY,upd_at,fin_at,HV.men]
   · simp only[aZ,List.map_append];exact⟨rfl,by omega,trivial,trivial⟩
   show s.length-(i+1)<s.length-i;omega
  refine aJ ?_;refine T0 (hK _ _ _ ?_);clear hK K;refine aB fun K hK=>?_;have hp:cU s[i]=false:=hb;clear hb;have hw1:IntKind.i64.wrap ((i:Int)+1)=((i+1:Nat):Int):=by rw[IntWalk.i64_in _ (by omega)];rfl
  have hw2:IntKind.i64.wrap ((i:Int)+2)=((i+2:Nat):Int):=by rw[IntWalk.i64_in _ (by omega)];rfl
  have hw3:IntKind.i64.wrap (((i+2:Nat):Int)+1)=((i+3:Nat):Int):=by rw[IntWalk.i64_in _ (by omega)];rfl
  have hwd:IntKind.i64.wrap ((s.length:Int)-(i:Int))=((s.length-i:Nat):Int):=by rw[IntWalk.i64_in _ (by omega)];omega
  refine aB fun K hK=>Rg ?_;iterate 5 refine S0 ?_ (e:=fun _ h_=>by simp only[sH,↓sP,sA,tyS,simprocAttr,Int.natCast_nonneg,Int.ofNat_lt,hlt,hgd,hwd];exact AX h_)
  refine aD 31 rfl (fun h11_31=>?_) (fun h11_31=>?_)
  ·
   iterate 6 refine S0 ?_ (e:=fun _ h_=>by simp only[sH,↓sP,sA,tyS,simprocAttr,Int.natCast_nonneg,Int.ofNat_lt,hlt,hgd,hwd,h11_31];exact AX h_)
   refine T2 (hK _ _ _ ?_);clear hK K;refine CT rfl ?_;refine R0 ?_;refine aE (RT Tryz.results69 ?_);have h37:s[i]≠37:=by rintro h;rw[h]at h11_31;simp at h11_31
   have hn:=gJ (hst.bad1 hlt hp (.inl h37)) hne;exact aO [] (.str []) (.bool false) rfl ⟨by rw[hn];rfl,by rw[hn];rfl⟩
  iterate 6 refine S0 ?_ (e:=fun _ h_=>by simp only[sH,↓sP,sA,tyS,simprocAttr,Int.natCast_nonneg,Int.ofNat_lt,hlt,hgd,hwd,h11_31];exact AX h_)
  refine aD 37 rfl (fun h11_37=>?_) (fun h11_37=>?_)
  ·
   simp only[h11_37];refine T2 (hK _ _ _ ?_);clear hK K;refine CT rfl ?_;refine R0 ?_;refine aE (RT Tryz.results69 ?_);have hi2:s.length≤i+2:=by simp at h11_37;omega
   have hn:=gJ (hst.bad1 hlt hp (.inr hi2)) hne;exact aO [] (.str []) (.bool false) rfl ⟨by rw[hn];rfl,by rw[hn];rfl⟩
  simp only[h11_37];refine T2 (hK _ _ _ ?_);clear hK K;refine CF rfl ?_;refine aJ ?_;refine T0 (hK _ _ _ ?_);clear hK K;have h37:s[i]=37:=by
   simp only[bne_eq_false_iff_eq]at h11_31;exact UInt8.toNat_inj.1 (by show s[i].toNat=37;omega)
  have hi2:i+2<s.length:=by simp at h11_37;omega
  have hi1:i+1<s.length:=by omega
  have hg1:s.getD (i+1) 0=s[i+1]:=by simp[hi1]
  have hg2:s.getD (i+2) 0=s[i+2]:=by simp[hi2]
  refine aB fun K hK=>DW [(0,[],[]),(1,[],[]),(2,[],[]),(3,[],[]),(5,[],[]),(6,[],[]),(7,[],[]),(8,[],[]),(4,[],[5,6,7,8]),(9,[],[]),(10,[],[]),(11,[],[])] [0,0,2,7,15,0,0,64,224,511,1023,2047] ?_;have F:=aI @Int.natCast_nonneg (aI @Int.ofNat_lt (aI hw1 (aI hw2 (aI hg1 (aI hg2 (aI hi1 (aI hi2 (aI h11_31 h11_37))))))));iterate 8 refine WF ?_
  refine cX (g:=none) rfl rfl fun K' hK'=>T6 ?_;refine C1 (aS2 s[i+1]) ?_;rintro u rfl;refine AX (hK' _ _ ?_);clear hK' K';refine cX (g:=none) rfl rfl fun K' hK'=>T6 ?_;refine C1 (aS2 s[i+2]) ?_;rintro u rfl;refine AX (hK' _ _ ?_);clear hK' K';iterate 2 refine WF ?_
  refine T2 (hK _ _ _ ?_);clear hK K;refine aB fun K hK=>?_;by_cases hx:valH s[i+1]<16
  ·
   by_cases hy:valH s[i+2]<16
   ·
    have hx0:(((valH s[i+1]:Nat):Int)==16)=false:=by rw[beq_eq_false_iff_ne];omega
    have hy0:(((valH s[i+2]:Nat):Int)==16)=false:=by rw[beq_eq_false_iff_ne];omega
    have e1:IntKind.i64.wrap (16*((valH s[i+1]:Nat):Int))=((16*valH s[i+1]:Nat):Int):=by rw[IntWalk.i64_in _ (by omega)];omega
    have e2:IntKind.i64.wrap (((16*valH s[i+1]:Nat):Int)+((valH s[i+2]:Nat):Int))=((16*valH s[i+1]+valH s[i+2]:Nat):Int):=by rw[IntWalk.i64_in _ (by omega)];omega
    have e3:IntKind.u8.wrap ((16*valH s[i+1]+valH s[i+2]:Nat):Int)=((byteH s[i+1] s[i+2]).toNat:Int):=by rw[IntWalk.u8_in _ (by omega),tE hx hy]
    refine aB fun K hK=>Rg ?_;have F:=aI hx0 (aI hy0 (aI e1 (aI e2 (aI e3 (aI h11_31 h11_37)))));iterate 12 refine SF ?_
    refine aP (g:=some (55,false)) rfl rfl fun K' hK'=>T6 ?_;refine C1 (tK (byteH s[i+1] s[i+2])) ?_;rintro u rfl;refine AX (hK' _ _ ?_);clear hK' K';refine SF ?_;refine T2 (hK _ _ _ ?_);clear hK K;refine aG (b:=cU (byteH s[i+1] s[i+2])) rfl (fun hb=>?_) (fun hb=>?_)
    · refine R0 ?_;refine aE (RT Tryz.results69 ?_);have hn:=gJ (hst.bad2 hi2 h37 (by simp[okH,hx,hy,hb])) hne;exact aO [] (.str []) (.bool false) rfl ⟨by rw[hn];rfl,by rw[hn];rfl⟩
    refine aJ ?_;refine T0 (hK _ _ _ ?_);clear hK K;refine aB fun K hK=>Rg ?_;have F:=aI @Int.natCast_nonneg (aI @List.length_append.{0} (aI @List.length_map.{0,0} (aI e1 (aI e2 (aI e3 (aI h11_31 h11_37))))));iterate 9 refine SF ?_
    refine T2 (hK _ _ _ ?_);clear hK K;refine aK (by kernel_rfl) ?_;refine TQ hw2 ?_;refine AX (hK _ _ _ ?_);clear hK K;refine aK (by kernel_rfl) ?_;refine TQ hw3 ?_;refine⟨⟨(i+3,out++[byteH s[i+1] s[i+2]]),hst.esc hi2 h37 (by simp[okH,hx,hy,hb])⟩,aL (by omega) ?_ ?_,?_⟩
    · simp[aY,upd_at,fin_at,HV.men]
    · simp only[aZ,List.map_append];exact⟨rfl,by omega,trivial,trivial⟩
    show s.length-(i+3)<s.length-i;omega
   have hx0:(((valH s[i+1]:Nat):Int)==16)=false:=by rw[beq_eq_false_iff_ne];omega
   have hy0:(((valH s[i+2]:Nat):Int)==16)=true:=by have:=bB8 s[i+2];rw[beq_iff_eq];omega
   refine aB fun K hK=>Rg ?_;have F:=aI hx0 (aI hy0 (aI h11_31 h11_37));iterate 14 refine SF ?_
   refine T2 (hK _ _ _ ?_);clear hK K;refine CT rfl ?_;refine R0 ?_;refine aE (RT Tryz.results69 ?_);have hn:=gJ (hst.bad2 hi2 h37 (by simp[okH,hx,hy])) hne;exact aO [] (.str []) (.bool false) rfl ⟨by rw[hn];rfl,by rw[hn];rfl⟩
  have hx0:(((valH s[i+1]:Nat):Int)==16)=true:=by have:=bB8 s[i+1];rw[beq_iff_eq];omega
  refine aB fun K hK=>Rg ?_;have F:=aI hx0 (aI h11_31 h11_37);iterate 14 refine SF ?_
  refine T2 (hK _ _ _ ?_);clear hK K;refine CT rfl ?_;refine R0 ?_;refine aE (RT Tryz.results69 ?_);have hn:=gJ (hst.bad2 hi2 h37 (by simp[okH,hx])) hne;exact aO [] (.str []) (.bool false) rfl ⟨by rw[hn];rfl,by rw[hn];rfl⟩
 refine bI (T3 ?_);clear hK K;refine AX (hK _ _ _ ?_);clear hK K;have hei:i=s.length:=by simp at hb;omega
 have hfin:=hst.fin hei hne;have ho0:out≠[]:=fun h=>hne0 (List.eq_nil_of_length_eq_zero (by have:=hst.2.2.1 h;omega));rw[if_neg ho0]at hfin;refine dF [32] (bH (fr2:=fin [(4,.c (.slc (out.map dM)))]) (ob2:=fob []) (nx2:=200) (aL (by omega) (by simp[aY,eB,fin_at,finA_at,upd_at,fob_at,HV.close,HV.closeL,CV.denil,CV.denilL,dK,HV.men,HV.menL,HV.norm,HV.toC,HV.toCL]) (by simp[aZ,eC,fob_at,upd_at,none0_at,bV,HO.close,HV.close,HV.closeL,HO.men,HV.men,HV.menL,HV.norm,HV.toC,HV.toCL])) ?_);refine aB fun K hK=>Rg ?_;have F:=aI @bytesC_map @List.length_map.{0,0};iterate 4 refine SF ?_
 refine T2 (hK _ _ _ ?_);clear hK K;refine aE (RT Tryz.results69 ?_);exact aO [] (.str out) (.bool true) rfl ⟨by rw[hfin];rfl,by rw[hfin];rfl⟩
theorem cI0 {α:Type}(l:List (List UInt8))(j:Nat)(p:List UInt8)(r:List (List UInt8))(h:l.drop j=p::r): ∃hj:j<(l.map fun p=>[CV.slc (p.map u8)]).length,(l.map fun p=>[CV.slc (p.map u8)])[j]=[CV.slc (p.map u8)]∧l.drop (j+1)=r:=by
 have hj:j<l.length:=by
  rcases Nat.lt_or_ge j l.length with h'|h'
  · exact h'
  rw[List.drop_eq_nil_of_le h']at h;cases h
 have h1:=List.drop_eq_getElem_cons hj;rw[h1]at h;cases h;exact⟨by simpa using hj,by simp,rfl⟩
theorem aY7 (l:List UInt8)(c:UInt8)(hl:l.length<2^40):aG3 Tryz.prog 126 [(47,.slc [u8 c]),(47,.slc (l.map u8)),(3,.int .i64 0)] ((aS c l).map fun p=>[.slc (p.map u8)]):=by
 refine aA7 Tryz.func126 rfl (by kernel_rfl) (Nat.le_of_ble_eq_true rfl) rfl fun L J hS hY=>?_;have e0:kK [(47,CV.slc [u8 c]),(47,.slc (l.map u8)),(3,.int .i64 0)]=fob [(0,.box 47 (.c (.slc [u8 c]))),(1,.box 47 (.c (.slc (l.map u8)))),(2,.box 3 (.c (.int .i64 0)))]:=by
  funext i
  match i with
  |0=>rfl
  |1=>rfl
  |2=>rfl
  |i+3=>simp[kK,fob,upd]
 have e1:iF (List.range [((47:Nat),CV.slc [u8 c]),(47,.slc (l.map u8)),(3,.int .i64 0)].length)=[.ptr 0 0,.ptr 1 0,.ptr 2 0]:=rfl;rw[e0,e1];refine fQ fun K hK=>?_;refine fQ fun K1 hK1=>nS hS rfl (aK (by kernel_rfl) ?_);simp only[sR,simprocAttr];have F:=rI;iterate 3 refine SF ?_
 simp only[sE,↓reduceIte,simprocAttr,rI];refine hK1 _ _ _ _ _ ?_;clear hK1 K1;refine kE (b:=false) rfl (fun hb=>by cases hb) (fun _=>?_);refine nT ?_;simp only[sE,↓reduceIte,simprocAttr,rI];refine hK _ _ _ _ _ ?_;clear hK K;refine fQ fun K hK=>?_;refine oY ?_;refine aO4 (α:={y:Nat×List UInt8//(aS c l).drop y.1=aS c y.2∧y.2.length≤l.length}) hS (fun y=>(fin [(0,.opq (.func (.yield L) #[] #[])),(1,.ptr 0 0),(2,.ptr 1 0),(3,.ptr 2 0)],fob [(0,.box 47 (.c (.slc [u8 c]))),(1,.box 47 (.c (.slc (y.1.2.map u8)))),(2,.box 3 (.c (.int .i64 0)))])) (fun y=>y.1.1) 100 (fun y=>y.1.2.length) ⟨(0,l),rfl,Nat.le_refl _⟩ rfl (fF) rfl ?_;rintro⟨⟨j,rest⟩,hsp,hle⟩;simp only at hsp hle;refine oY ?_;refine fQ fun K1 hK1=>nS hS rfl (aK (by kernel_rfl) ?_);simp only[sR,simprocAttr];iterate 2 refine SF ?_
 have F:=aI rI @denilL_u8;refine HS rfl rfl fun K' hK'=>T6 ?_;refine C2 (aB0 rest c) ?_;rintro u rfl;refine AX (hK' _ _ ?_);clear hK' K';have F:=rI;refine SF ?_;simp only[sE,↓reduceIte,simprocAttr,rI];refine hK1 _ _ _ _ _ ?_;clear hK1 K1;refine fQ fun K1 hK1=>?_;refine fQ fun K2 hK2=>nS hS rfl (aK (by kernel_rfl) ?_);simp only[sR,simprocAttr];iterate 2 refine SF ?_
 simp only[sE,↓reduceIte,simprocAttr,rI];refine hK2 _ _ _ _ _ ?_;clear hK2 K2;refine kE (b:=decide (dQ rest c<0)) rfl (fun hb=>?_) (fun hb=>?_)
 ·
  have hn:dQ rest c<0:=by simpa using hb
  rw[nQ hn]at hsp;obtain⟨hj,hx,hd⟩:=cI0 (α:=Nat) _ _ _ _ hsp;refine aO3 ?_;simp only[sE,↓reduceIte,simprocAttr,rI];clear hK1 K1;refine hK _ _ _ _ _ ?_;clear hK K;have htk:List.take rest.length (rest.map u8)=rest.map u8:=List.take_of_length_le (by simp);refine tH (l:=L) 7 hS hY rfl (by kernel_rfl) (by decide) ?_;simp only[sR,List.range',simprocAttr];have F:=aI rI @List.length_map.{0,0};iterate 6 refine SF ?_
  refine S0 ?_ (e:=fun _ h_=>by simp only[sH,↓sP,sA,tyS,simprocAttr,rI,htk,List.length_map,↓hslice3.eq_def,Int.natCast_nonneg,lL,List.drop_zero,Nat.sub_zero,Int.le_refl,Int.toNat_zero];exact AX h_);rw[hlex];refine⟨_,_,_,hj,rfl,rfl,rfl,rfl,rfl,?_,?_,?_⟩
  · rw[hx];rfl
  · simp only[sR,List.range',simprocAttr];rw[hlex];refine⟨by simp,fun _=>?_⟩;have:=List.drop_eq_nil_iff.1 hd;simp only[List.length_map]at hj⊢;omega
  simp only[sR,List.range',simprocAttr];rw[hlex];exact⟨by simp,fun h=>by cases h⟩
 have hn: ¬dQ rest c<0:=by simpa using hb
 obtain⟨k,hk,hkl,hsp2⟩:=eG hn;rw[hk];rw[hsp2]at hsp;obtain⟨hj,hx,hd⟩:=cI0 (α:=Nat) _ _ _ _ hsp;have hkm:min k rest.length=k:=by omega
 have ek:List.take k (rest.map u8)=(rest.take k).map u8:=List.map_take.symm;have htk:List.take k ((rest.take k).map u8)=(rest.take k).map u8:=List.take_of_length_le (by simp;omega);have hw1:IntKind.i64.wrap ((k:Int)+1)=((k+1:Nat):Int):=by rw[IntWalk.i64_in _ (by omega)];rfl
 have hkl1:k+1≤rest.length:=hkl;have edr:List.take (rest.length-(k+1)) (List.drop (k+1) (rest.map u8))=(rest.drop (k+1)).map u8:=by rw[List.map_drop,List.take_of_length_le (by simp)]
 refine nT ?_;simp only[sE,↓reduceIte,simprocAttr,rI];refine hK1 _ _ _ _ _ ?_;clear hK1 K1;refine fQ fun K1 hK1=>nS hS rfl (aK (by kernel_rfl) ?_);simp only[sR,simprocAttr];iterate 6 refine S0 ?_ (e:=fun _ h_=>by simp only[sH,↓sP,sA,tyS,simprocAttr,rI,ek,List.length_map,Int.natCast_nonneg,lL,Int.add_zero,Int.ofNat_le,Nat.le_of_lt hkl,List.drop_zero,Nat.sub_zero,show IntKind.i64.wrap (k:Int)=(k:Int)from IntWalk.i64_in _ (by omega)];exact AX h_)
 simp only[sE,↓reduceIte,simprocAttr,rI];refine hK1 _ _ _ _ _ ?_;clear hK1 K1;refine fQ fun K1 hK1=>?_;refine fQ fun K2 hK2=>tH (l:=L) 7 hS hY rfl (by kernel_rfl) (by decide) ?_;simp only[sR,List.range',simprocAttr];have F:=aI rI (aI @List.length_map.{0,0} (aI @List.length_take.{0} hkm));iterate 6 refine SF ?_
 refine S0 ?_ (e:=fun _ h_=>by simp only[sH,↓sP,sA,tyS,simprocAttr,rI,htk,List.length_map,List.length_take,hkm,↓hslice3.eq_def,Int.natCast_nonneg,lL,List.drop_zero,Nat.sub_zero,Int.le_refl,Int.toNat_zero];exact AX h_);rw[hlex];refine⟨_,_,_,hj,rfl,rfl,rfl,rfl,rfl,?_,?_,?_⟩
 · rw[hx];rfl
 ·
  simp only[sR,List.range',simprocAttr];have F:=rI;refine SF ?_;simp only[sE,↓reduceIte,simprocAttr,rI];refine hK2 _ _ _ _ _ ?_;clear hK2 K2;refine kE (b:=false) rfl (fun hb=>by cases hb) (fun _=>?_);refine nT ?_;simp only[sE,↓reduceIte,simprocAttr,rI];refine hK1 _ _ _ _ _ ?_;clear hK1 K1;refine nS hS rfl (aK (by kernel_rfl) ?_);simp only[sR,simprocAttr];have F:=aI rI (aI edr (aI hw1 (aI @List.length_map.{0,0} (aI @Int.natCast_nonneg (aI @lL (aI @Int.ofNat_le (aI hkl1 @denilL_u8)))))));iterate 7 refine SF ?_
  simp only[sE,↓reduceIte,simprocAttr,rI];refine⟨⟨(j+1,rest.drop (k+1)),hd,by simp;omega⟩,fF,trivial,rfl,?_⟩;show(rest.drop (k+1)).length<rest.length;simp;omega
 simp only[sR,List.range',simprocAttr];have F:=rI;refine SF ?_;simp only[sE,↓reduceIte,simprocAttr,rI];refine hK2 _ _ _ _ _ ?_;clear hK2 K2;refine kE (b:=true) rfl (fun _=>?_) (fun hb=>by cases hb);refine bC3 ?_;simp only[sE,↓reduceIte,simprocAttr,rI];exact⟨by simp,fun h=>by cases h⟩
theorem cL0 (s:aF)(hl:s.length<2^40):gT Tryz.prog 87 [.str s] (fun u v=>u= .str ((unW s).getD [])∧v= .bool (unW s).isSome):=by
 refine FW Tryz.func87 ?_;refine R0 ?_;refine aB fun K hK=>?_;refine R0 ?_;refine aG (b:=s==[126]) rfl (fun hb=>?_) (fun hb=>?_)
 ·
  refine R0 ?_;refine aE (RT Tryz.results87 ?_);have hs:s=[126]:=by simpa using hb
  subst hs;exact aO [] (.str []) (.bool true) rfl ⟨rfl,rfl⟩
 refine aJ ?_;refine T0 (hK _ _ _ ?_);clear hK K;have hne:s≠[126]:=by simpa using hb
 clear hb;refine R0 ?_;refine aB fun K hK=>?_;refine R0 ?_;refine aN ?_;refine kC 4 0 5 1 rfl rfl rfl rfl ?_;refine bS (α:={y:Nat×aF//UnSt s y.1 y.2}) (fun y=>(fin [(0,.c (.str s)),(4,.own 24 y.1.2.length),(5,.c (.int .i64 y.1.1))],fob [(24,.row 5 1 (y.1.2.map dM))])) 100 (fun y=>s.length-y.1.1) ⟨(0,[]),UnSt.init s⟩ (fF) ?_;rintro⟨⟨i,out⟩,hst⟩;simp only at hst;have hi:=hst.1;have ho:=hst.2.2.2;refine aB fun K hK=>?_;refine aB fun K hK=>Rg ?_;iterate 4 refine S0 ?_
 refine T2 (hK _ _ _ ?_);clear hK K;refine aG (b:=decide ((i:Int)<s.length)) rfl (fun hb=>?_) (fun hb=>?_)
 ·
  have hlt:i<s.length:=by simpa using hb
  clear hb;have hgd:s.getD i 0=s[i]:=by simp[hlt]
  refine aJ ?_;refine T0 (hK _ _ _ ?_);clear hK K;refine aB fun K hK=>?_;refine aN ?_;refine aB fun K hK=>?_;refine aB fun K hK=>Rg ?_;iterate 3 refine S0 ?_ (e:=fun _ h_=>by simp only[sH,↓sP,sA,tyS,simprocAttr,Int.natCast_nonneg,Int.ofNat_lt,hlt,hgd];exact AX h_)
  refine HS rfl rfl fun K' hK'=>?_;simp only[sH,↓sP,sA,tyS,simprocAttr,Int.natCast_nonneg,Int.ofNat_lt,hlt,hgd];refine C1 (rQ s[i]) ?_;rintro u rfl;refine AX (hK' _ _ ?_);clear hK' K';refine T2 (hK _ _ _ ?_);clear hK K;refine aG (b:=cU s[i]) rfl (fun hb=>?_) (fun hb=>?_)
  ·
   refine aB fun K hK=>Rg ?_;iterate 7 refine S0 ?_ (e:=fun _ h_=>by simp only[sH,↓sP,sA,tyS,simprocAttr,Int.natCast_nonneg,Int.ofNat_lt,hlt,hgd,List.length_append,List.length_map];exact AX h_)
   refine T2 (hK _ _ _ ?_);clear hK K;refine bI (T3 ?_);clear hK K;refine AX (hK _ _ _ ?_);clear hK K;refine aK (by kernel_rfl) ?_;refine TQ (iH i) ?_;refine⟨⟨(i+1,out++[s[i]]),hst.plain hlt hb⟩,aL (by omega) ?_ ?_,?_⟩
   · simp[aY,upd_at,fin_at,HV.men]
   · simp only[aZ,List.map_append];exact⟨rfl,by omega,trivial,trivial⟩
   show s.length-(i+1)<s.length-i;omega
  refine aJ ?_;refine T0 (hK _ _ _ ?_);clear hK K;refine aB fun K hK=>?_;have hp:cU s[i]=false:=hb;clear hb;have hw1:IntKind.i64.wrap ((i:Int)+1)=((i+1:Nat):Int):=by rw[IntWalk.i64_in _ (by omega)];rfl
  have hw2:IntKind.i64.wrap ((i:Int)+2)=((i+2:Nat):Int):=by rw[IntWalk.i64_in _ (by omega)];rfl
  have hw3:IntKind.i64.wrap (((i+2:Nat):Int)+1)=((i+3:Nat):Int):=by rw[IntWalk.i64_in _ (by omega)];rfl
  refine aB fun K hK=>Rg ?_;iterate 5 refine S0 ?_ (e:=fun _ h_=>by simp only[sH,↓sP,sA,tyS,simprocAttr,Int.natCast_nonneg,Int.ofNat_lt,hlt,hgd,hw2];exact AX h_)
  refine aD 29 rfl (fun h9_29=>?_) (fun h9_29=>?_)
  ·
   iterate 6 refine S0 ?_ (e:=fun _ h_=>by simp only[sH,↓sP,sA,tyS,simprocAttr,Int.natCast_nonneg,Int.ofNat_lt,hlt,hgd,hw2,h9_29];exact AX h_)
   refine T2 (hK _ _ _ ?_);clear hK K;refine CT rfl ?_;refine R0 ?_;refine aE (RT Tryz.results87 ?_);have h37:s[i]≠37:=by rintro h;rw[h]at h9_29;simp at h9_29
   have hn:=gJ (hst.bad1 hlt hp (.inl h37)) hne;exact aO [] (.str []) (.bool false) rfl ⟨by rw[hn];rfl,by rw[hn];rfl⟩
  iterate 6 refine S0 ?_ (e:=fun _ h_=>by simp only[sH,↓sP,sA,tyS,simprocAttr,Int.natCast_nonneg,Int.ofNat_lt,hlt,hgd,hw2,h9_29];exact AX h_)
  refine aD 35 rfl (fun h9_35=>?_) (fun h9_35=>?_)
  ·
   simp only[h9_35];refine T2 (hK _ _ _ ?_);clear hK K;refine CT rfl ?_;refine R0 ?_;refine aE (RT Tryz.results87 ?_);have hi2:s.length≤i+2:=by simp at h9_35;omega
   have hn:=gJ (hst.bad1 hlt hp (.inr hi2)) hne;exact aO [] (.str []) (.bool false) rfl ⟨by rw[hn];rfl,by rw[hn];rfl⟩
  simp only[h9_35];refine T2 (hK _ _ _ ?_);clear hK K;refine CF rfl ?_;refine aJ ?_;refine T0 (hK _ _ _ ?_);clear hK K;have h37:s[i]=37:=by
   simp only[bne_eq_false_iff_eq]at h9_29;exact UInt8.toNat_inj.1 (by show s[i].toNat=37;omega)
  have hi2:i+2<s.length:=by simp at h9_35;omega
  have hi1:i+1<s.length:=by omega
  have hg1:s.getD (i+1) 0=s[i+1]:=by simp[hi1]
  have hg2:s.getD (i+2) 0=s[i+2]:=by simp[hi2]
  refine aB fun K hK=>DW [(0,[],[]),(1,[],[]),(2,[],[]),(3,[],[]),(5,[],[]),(6,[],[]),(7,[],[]),(8,[],[]),(4,[],[5,6,7,8]),(9,[],[]),(10,[],[]),(11,[],[])] [0,0,2,7,15,0,0,64,224,511,1023,2047] ?_;have F:=aI @Int.natCast_nonneg (aI @Int.ofNat_lt (aI hw1 (aI hw2 (aI hg1 (aI hg2 (aI hi1 (aI hi2 (aI h9_29 h9_35))))))));iterate 8 refine WF ?_
  refine cX (g:=none) rfl rfl fun K' hK'=>T6 ?_;refine C2 (rR cB2 s[i+1]) ?_;rintro u rfl;refine AX (hK' _ _ ?_);clear hK' K';refine cX (g:=none) rfl rfl fun K' hK'=>T6 ?_;refine C2 (rR cB2 s[i+2]) ?_;rintro u rfl;refine AX (hK' _ _ ?_);clear hK' K';iterate 2 refine WF ?_
  refine T2 (hK _ _ _ ?_);clear hK K;refine aB fun K hK=>?_;by_cases hx:valH s[i+1]<16
  ·
   by_cases hy:valH s[i+2]<16
   ·
    rw[rH,rH,if_pos hx,if_pos hy];have hx0:decide (((valH s[i+1]:Nat):Int)<0)=false:=by simp
    have hy0:decide (((valH s[i+2]:Nat):Int)<0)=false:=by simp
    have e1:IntKind.i64.wrap (16*((valH s[i+1]:Nat):Int))=((16*valH s[i+1]:Nat):Int):=by rw[IntWalk.i64_in _ (by omega)];omega
    have e2:IntKind.i64.wrap (((16*valH s[i+1]:Nat):Int)+((valH s[i+2]:Nat):Int))=((16*valH s[i+1]+valH s[i+2]:Nat):Int):=by rw[IntWalk.i64_in _ (by omega)];omega
    have e3:IntKind.u8.wrap ((16*valH s[i+1]+valH s[i+2]:Nat):Int)=((byteH s[i+1] s[i+2]).toNat:Int):=by rw[IntWalk.u8_in _ (by omega),tE hx hy]
    refine aB fun K hK=>Rg ?_;have F:=aI hx0 (aI hy0 (aI e1 (aI e2 (aI e3 (aI h9_29 h9_35)))));iterate 12 refine SF ?_
    refine aP (g:=some (53,false)) rfl rfl fun K' hK'=>T6 ?_;refine C1 (rQ (byteH s[i+1] s[i+2])) ?_;rintro u rfl;refine AX (hK' _ _ ?_);clear hK' K';refine SF ?_;refine T2 (hK _ _ _ ?_);clear hK K;refine aG (b:=cU (byteH s[i+1] s[i+2])) rfl (fun hb=>?_) (fun hb=>?_)
    · refine R0 ?_;refine aE (RT Tryz.results87 ?_);have hn:=gJ (hst.bad2 hi2 h37 (by simp[okH,hx,hy,hb])) hne;exact aO [] (.str []) (.bool false) rfl ⟨by rw[hn];rfl,by rw[hn];rfl⟩
    refine aJ ?_;refine T0 (hK _ _ _ ?_);clear hK K;refine aB fun K hK=>Rg ?_;have F:=aI @Int.natCast_nonneg (aI @List.length_append.{0} (aI @List.length_map.{0,0} (aI e1 (aI e2 (aI e3 (aI h9_29 h9_35))))));iterate 9 refine SF ?_
    refine T2 (hK _ _ _ ?_);clear hK K;refine aK (by kernel_rfl) ?_;refine TQ hw2 ?_;refine AX (hK _ _ _ ?_);clear hK K;refine aK (by kernel_rfl) ?_;refine TQ hw3 ?_;refine⟨⟨(i+3,out++[byteH s[i+1] s[i+2]]),hst.esc hi2 h37 (by simp[okH,hx,hy,hb])⟩,aL (by omega) ?_ ?_,?_⟩
    · simp[aY,upd_at,fin_at,HV.men]
    · simp only[aZ,List.map_append];exact⟨rfl,by omega,trivial,trivial⟩
    show s.length-(i+3)<s.length-i;omega
   rw[rH,rH,if_pos hx,if_neg hy];have hx0:decide (((valH s[i+1]:Nat):Int)<0)=false:=by simp
   refine aB fun K hK=>Rg ?_;have F:=aI hx0 (aI h9_29 h9_35);iterate 14 refine SF ?_
   refine T2 (hK _ _ _ ?_);clear hK K;refine CT rfl ?_;refine R0 ?_;refine aE (RT Tryz.results87 ?_);have hn:=gJ (hst.bad2 hi2 h37 (by simp[okH,hx,hy])) hne;exact aO [] (.str []) (.bool false) rfl ⟨by rw[hn];rfl,by rw[hn];rfl⟩
  rw[rH,if_neg hx];refine aB fun K hK=>Rg ?_;have F:=aI h9_29 h9_35;iterate 14 refine SF ?_
  refine T2 (hK _ _ _ ?_);clear hK K;refine CT rfl ?_;refine R0 ?_;refine aE (RT Tryz.results87 ?_);have hn:=gJ (hst.bad2 hi2 h37 (by simp[okH,hx])) hne;exact aO [] (.str []) (.bool false) rfl ⟨by rw[hn];rfl,by rw[hn];rfl⟩
 refine bI (T3 ?_);clear hK K;refine AX (hK _ _ _ ?_);clear hK K;have hei:i=s.length:=by simp at hb;omega
 have hfin:=hst.fin hei hne;refine dF [24] (bH (fr2:=fin [(4,.c (.slc (out.map dM)))]) (ob2:=fob []) (nx2:=200) (aL (by omega) (by simp[aY,eB,fin_at,finA_at,upd_at,fob_at,HV.close,HV.closeL,CV.denil,CV.denilL,dK,HV.men,HV.menL,HV.norm,HV.toC,HV.toCL]) (by simp[aZ,eC,fob_at,upd_at,none0_at,bV,HO.close,HV.close,HV.closeL,HO.men,HV.men,HV.menL,HV.norm,HV.toC,HV.toCL])) ?_);refine aB fun K hK=>Rg ?_;have F:=aI @bytesC_map @List.length_map.{0,0};iterate 7 refine SF ?_
 refine T2 (hK _ _ _ ?_);clear hK K;refine aE (RT Tryz.results87 ?_);refine aO [] (.str out) (.bool (decide (0<(out.length:Int)))) rfl ?_;rw[hfin];by_cases ho0:out=[]
 · subst ho0;simp
 have:0<out.length:=List.length_pos_iff.2 ho0;simp[ho0,this]
end Go.Proofs.YtlldglbooaefhaaGreatDoor
