/- Part of a proof: walks of functions of the program, by contracts, and the rules they use. By an AI agent. -/
import Derived.Test.YtlldglbooaefhaaGreatDoorHzU1
import Derived.Test.YtlldglbooaefhaaGreatDoorPl28s
import Derived.Test.YtlldglbooaefhaaGreatDoorHlTlaw
import Derived.Test.YtlldglbooaefhaaGreatDoorHzTm
import Derived.Test.YtlldglbooaefhaaGreatDoorHzT5
import Derived.Test.YtlldglbooaefhaaGreatDoorHlIt
import Derived.Test.YtlldglbooaefhaaGreatDoorHzTc
import Derived.Test.YtlldglbooaefhaaGreatDoorHzT9
set_option linter.unusedSimpArgs false
set_option linter.unusedVariables false
set_option linter.defProp false
namespace Go.Proofs.YtlldglbooaefhaaGreatDoor
open Go Go.Hl Go.Pl
set_option maxRecDepth 10000
set_option maxHeartbeats 16000000
theorem bX1 (b:aG):LsB (fE b):=fun l hl w hw=>by
 have:=(bU0 (b:=b) l hl).2.2 w hw;omega
theorem bD9 (a b:aG):bW Tryz.prog 64 [.slc (a.map eB),.slc (b.map eB)] (fun v=>v= .bool (a==b)):=by
 refine FW Tryz.func64 ?_;refine R0 ?_;refine aC fun K hK=>Rg ?_;have F:=@bytesC_map;iterate 6 refine SF ?_
 refine T2 (hK _ _ _ ?_);clear hK K;refine aF (RT Tryz.results64 ?_);exact aH [] (.bool (a==b)) rfl rfl
theorem bX2 (b:aG)(hl:b.length<2^40):aX1 Tryz.prog 32 tabs [.slc (b.map u8)] (fun u v x=>u=(dpO b).cv∧v= .int .i64 (dpL b:Nat)∧x= .int .i64 (dpE b)):=by
 refine bR (args:=[.c (.slc (b.map u8))]) Tryz.func32 rfl (by kernel_rfl) (fA tabs [.slc (b.map u8)]) (Nat.le_of_ble_eq_true rfl) ?_;unfold eK;have hlen:=bK2 (b:=b);refine R0 ?_;refine aC fun K hK=>Rg ?_;have F:=@denilL_u8;refine SF ?_;refine HS rfl rfl fun K' hK'=>T6 ?_;refine D1 (cC1 b hl) ?_;rintro u v ⟨rfl,rfl⟩;refine AX (hK' _ _ ?_);clear hK' K';iterate 5 refine SF ?_
 refine T2 (hK _ _ _ ?_);clear hK K;refine aC fun K hK=>?_;refine R0 ?_;refine aJ (b:=!(iG b==0)) rfl (fun hb=>?_) (fun hb=>?_)
 ·
  have he:iG b≠0:=by simpa using hb
  have e1:dpE b=iG b:=by rw[dpE,if_pos he]
  have e2:dpL b=0:=by rw[dpL,if_pos he]
  have e3:dpO b=po0:=by rw[dpO,e1,if_neg he]
  clear hb;refine aC fun K hK=>Rg ?_;iterate 5 refine S0 ?_
  refine T2 (hK _ _ _ ?_);clear hK K;refine aF (RT Tryz.results32 ?_);exact iF [] po0.cv (.int .i64 0) (.int .i64 (iG b)) (by simp[HV.close,HV.closeL,po0,Po.cv,CV.denil,CV.denilL,HV.norm,HV.toC,HV.toCL]) rfl (by simp) (by rw[e1,e2,e3];exact⟨rfl,rfl,rfl⟩)
 refine aK ?_;refine T0 (hK _ _ _ ?_);clear hK K;have he:iG b=0:=by simpa using hb
 clear hb;refine aC fun K hK=>Rg ?_;iterate 4 refine S0 ?_
 refine T2 (hK _ _ _ ?_);clear hK K;refine aC fun K hK=>Rg ?_;refine S0 ?_;refine HS rfl rfl fun K' hK'=>T5 ?_;refine dT (args:=[]) (bO6 (fE b) (by omega)) rfl (by simp) ⟨rfl,rfl,rfl,rfl⟩ ?_;rintro u x v' ⟨q,rfl,rfl,rfl,hq⟩;refine AX (hK' _ _ ?_);clear hK' K';iterate 5 refine S0 ?_
 refine T2 (hK _ _ _ ?_);clear hK K;refine aC fun K hK=>?_;refine R0 ?_;refine aJ (b:=!(rdP (fE b)).1.isSome) rfl (fun hb=>?_) (fun hb=>?_)
 ·
  have hno:(rdP (fE b)).1=none:=by simpa using hb
  have e1:dpE b=2:=by rw[dpE,if_neg (by simpa using he),hno]
  have e2:dpL b=(fE b).length-(rdP (fE b)).2.length:=by
   rw[dpL,if_neg (by simpa using he)]
   match h:rdP (fE b)with
   |(none,r)=>rfl
   |(some p,r)=>rw[h]at hno;cases hno
  have e3:dpO b=po0:=by rw[dpO,e1,if_neg (by decide)]
  clear hb;refine aC fun K hK=>DW [(0,[],[]),(1,[],[]),(2,[],[]),(3,[],[]),(4,[],[]),(5,[],[1,2,3,4]),(6,[],[]),(7,[],[])] [0,0,2,6,14,1,63,127] ?_;iterate 8 refine W0 ?_ (e:=fun _ h_=>by simp only[sH,↓sP,sA,tyS,simprocAttr,rdr];exact AX h_)
  refine T2 (hK _ _ _ ?_);clear hK K;refine aF (RT Tryz.results32 ?_);exact iF [] po0.cv (.int .i64 ((fE b).length-(rdP (fE b)).2.length:Nat)) (.int .i64 2) (by simp[HV.close,HV.closeL,po0,Po.cv,CV.denil,CV.denilL,HV.norm,HV.toC,HV.toCL]) rfl (by simp) (by rw[e1,e2,e3];exact⟨rfl,rfl,rfl⟩)
 refine aK ?_;refine T0 (hK _ _ _ ?_);clear hK K;refine aC fun K hK=>?_;obtain⟨p,hp⟩: ∃p,(rdP (fE b)).1=some p:=by
  cases h:(rdP (fE b)).1 with
  |none=>rw[h]at hb;simp at hb
  |some p=>exact⟨p,rfl⟩
 obtain rfl:=hq p hp;have hsz:=cH6 (bX1 b) (by omega) hp;have hr:rdP (fE b)=(some q,(rdP (fE b)).2):=Prod.ext hp rfl;have hiff:=cB6 he hr;have e1:dpE b=if fC q then 0 else 1:=by rw[dpE,if_neg (by simpa using he),hp]
 have e2:dpL b=0:=by rw[dpL,if_neg (by simpa using he),hr]
 clear hb;refine aC fun K hK=>Rg ?_;refine S0 ?_;refine HS rfl rfl fun K' hK'=>T5 ?_;refine tC (args:=[_]) 0 (aX0 q hsz) rfl (by simp) ⟨rfl,rfl,rfl,rfl⟩ ?_;rintro u v ⟨rfl,rfl⟩;refine AX (hK' _ _ ?_);clear hK' K';iterate 5 refine S0 ?_
 refine T2 (hK _ _ _ ?_);clear hK K;refine aC fun K hK=>Rg ?_;have F:=aI @dW @denilL_u8;iterate 3 refine SF ?_
 refine aE 40 rfl (fun h9_40=>?_) (fun h9_40=>?_)
 ·
  have F:=aI @dW (aI @denilL_u8 h9_40);iterate 5 refine SF ?_
  refine T2 (hK _ _ _ ?_);clear hK K;refine CT rfl ?_;refine aC fun K hK=>Rg ?_;have F:=h9_40;iterate 4 refine SF ?_
  refine T2 (hK _ _ _ ?_);clear hK K;refine aF (RT Tryz.results32 ?_);have hpo:fC q=false:=by
   cases h:fC q with
   |false=>rfl
   |true=>exact absurd (hiff.2 h).1 (by simpa using h9_40)
  rw[hpo]at e1;have e1:dpE b=1:=e1;have e3:dpO b=po0:=by rw[dpO,e1,if_neg (by decide)]
  exact iF [] po0.cv (.int .i64 0) (.int .i64 1) (by simp[HV.close,HV.closeL,po0,Po.cv,CV.denil,CV.denilL,HV.norm,HV.toC,HV.toCL]) rfl (by simp) (by rw[e1,e2,e3];exact⟨rfl,rfl,rfl⟩)
 have F:=aI @dW (aI @denilL_u8 h9_40);iterate 2 refine SF ?_
 refine aV (g:=some (41,false)) rfl rfl fun K' hK'=>T6 ?_;refine C2 (bD9 (rW q) b) ?_;rintro u rfl;refine AX (hK' _ _ ?_);clear hK' K';iterate 2 refine SF ?_
 refine aE 44 rfl (fun h9_44=>?_) (fun h9_44=>?_)
 ·
  simp only[h9_44];refine T2 (hK _ _ _ ?_);clear hK K;refine CF rfl ?_;refine aK ?_;refine T0 (hK _ _ _ ?_);clear hK K;refine aC fun K hK=>Rg ?_;have F:=aI h9_40 h9_44;iterate 4 refine SF ?_
  refine T2 (hK _ _ _ ?_);clear hK K;refine aF (RT Tryz.results32 ?_);have hpo:fC q=true:=hiff.1 ⟨by simpa using h9_40,by simpa using h9_44⟩;rw[hpo]at e1;have e1:dpE b=0:=e1;have e3:dpO b=q:=by rw[dpO,if_pos e1,hp];rfl
  exact iF [] q.cv (.int .i64 0) (.int .i64 0) (by simp[HV.close,HV.closeL,Po.denil,CV.denil,CV.denilL,HV.norm,HV.toC,HV.toCL]) rfl (by simp) (by rw[e1,e2,e3];exact⟨rfl,rfl,rfl⟩)
 simp only[h9_44];refine T2 (hK _ _ _ ?_);clear hK K;refine CT rfl ?_;refine aC fun K hK=>Rg ?_;have F:=aI h9_40 h9_44;iterate 4 refine SF ?_
 refine T2 (hK _ _ _ ?_);clear hK K;refine aF (RT Tryz.results32 ?_);have hpo:fC q=false:=by
  cases h:fC q with
  |false=>rfl
  |true=>exact absurd (hiff.2 h).2 (by simpa using h9_44)
 rw[hpo]at e1;have e1:dpE b=1:=e1;have e3:dpO b=po0:=by rw[dpO,e1,if_neg (by decide)]
 exact iF [] po0.cv (.int .i64 0) (.int .i64 1) (by simp[HV.close,HV.closeL,po0,Po.cv,CV.denil,CV.denilL,HV.norm,HV.toC,HV.toCL]) rfl (by simp) (by rw[e1,e2,e3];exact⟨rfl,rfl,rfl⟩)
theorem bE0 (l:List Nd)(hl:l.length<2^40):aB8 Tryz.prog 76 [(22,.slc (l.map Nd.cv))] (bwL l):=by
 refine yP Tryz.func76 rfl (by kernel_rfl) (Nat.le_of_ble_eq_true rfl) rfl fun L J hS hY=>?_;have e0:jO [(22,CV.slc (l.map Nd.cv))]=fob [(0,.box 22 (.c (.slc (l.map Nd.cv))))]:=by
  funext i
  match i with
  |0=>rfl
  |i+1=>simp[jO,fob,upd]
 have e1:gG (List.range [((22:Nat),CV.slc (l.map Nd.cv))].length)=[.ptr 0 0]:=rfl;rw[e0,e1];refine eO fun K hK=>mT hS rfl (aM (by kernel_rfl) ?_);simp only[sR,simprocAttr];iterate 4 refine S0 ?_ (e:=fun _ h_=>by simp only[sH,↓sP,sA,tyS,simprocAttr,rI,bQ ((l.length:Int)-1) (by omega),List.length_map];exact AX h_)
 simp only[sE,↓reduceIte,simprocAttr,rI];refine hK _ _ _ _ _ ?_;clear hK K;refine nY ?_;refine aI8 (α:={j:Nat//j≤l.length}) hS (fun j=>(fin [(0,.opq (.func (.yield L) #[] #[])),(1,.ptr 0 0),(3,.c (.int .i64 ((l.length:Int)-1-j.1)))],fob [(0,.box 22 (.c (.slc (l.map Nd.cv))))])) (fun j=>j.1) 100 (fun j=>l.length-j.1) ⟨0,Nat.zero_le _⟩ rfl (fF) rfl ?_;rintro⟨j,hj⟩;refine eO fun K hK=>?_;refine eO fun K1 hK1=>mT hS rfl (aM (by kernel_rfl) ?_);simp only[sR,simprocAttr];have F:=rI;iterate 2 refine SF ?_
 simp only[sE,↓reduceIte,simprocAttr,rI];refine hK1 _ _ _ _ _ ?_;clear hK1 K1;refine jE (b:=decide ((0:Int)≤(l.length:Int)-1-j)) rfl (fun hb=>?_) (fun hb=>?_)
 ·
  have hlt:j<l.length:=by simp at hb;omega
  have hi2:l.length-1-j<l.length:=by omega
  have hxl:j<(bwL l).length:=by rw[qQ];exact hlt
  have hx:=bM8 hxl hi2;have hcast:(l.length:Int)-1-j=((l.length-1-j:Nat):Int):=by omega
  have hw1:IntKind.i64.wrap (((l.length-1-j:Nat):Int)-1)=(l.length:Int)-1-((j:Int)+1):=by rw[bQ _ (by omega)];omega
  refine mU ?_;simp only[sE,↓reduceIte,simprocAttr,rI];refine hK _ _ _ _ _ ?_;clear hK K;refine eO fun K hK=>?_;refine nY ?_;refine eO fun K1 hK1=>rQ (l:=L) 6 hS hY rfl (by kernel_rfl) (by decide) ?_;simp only[sR,List.range',simprocAttr];have F:=aI rI (aI hcast (aI @List.length_map.{0,0} (aI @Int.natCast_nonneg (aI @Int.ofNat_lt (aI hi2 (nM hi2))))));iterate 6 refine SF ?_
  rw[hlex];refine⟨_,_,_,hxl,rfl,rfl,rfl,rfl,rfl,?_,?_,?_⟩
  · rw[hx];simp only[hcast];rfl
  ·
   simp only[sR,List.range',simprocAttr];have F:=rI;refine SF ?_;simp only[sE,↓reduceIte,simprocAttr,rI];refine hK1 _ _ _ _ _ ?_;clear hK1 K1;refine jE (b:=false) rfl (fun hb=>by cases hb) (fun _=>?_);refine mU ?_;simp only[sE,↓reduceIte,simprocAttr,rI];refine hK _ _ _ _ _ ?_;clear hK K;refine mT hS rfl (aM (by kernel_rfl) ?_);simp only[sR,simprocAttr];have F:=aI rI (aI hcast hw1);iterate 3 refine SF ?_
   simp only[sE,↓reduceIte,simprocAttr,rI];refine⟨⟨j+1,hlt⟩,fF,trivial,rfl,?_⟩;show l.length-(j+1)<l.length-j;omega
  simp only[sR,List.range',simprocAttr];have F:=rI;refine SF ?_;simp only[sE,↓reduceIte,simprocAttr,rI];refine hK1 _ _ _ _ _ ?_;clear hK1 K1;refine jE (b:=true) rfl (fun _=>?_) (fun hb=>by cases hb);refine aU6 ?_;simp only[sE,↓reduceIte,simprocAttr,rI];exact⟨by simp,fun h=>by cases h⟩
 have hji:j=l.length:=by simp at hb;omega
 refine aI7 ?_;simp only[sE,↓reduceIte,simprocAttr,rI];exact⟨by simp,fun _=>by rw[qQ];exact hji⟩
theorem bX3 (l:List Nd):aU7 Tryz.prog 46 76 [.slc (l.map Nd.cv)] [(22,.slc (l.map Nd.cv))]:=by
 refine FW Tryz.func46 ?_;refine R0 ?_;refine R0 ?_;refine aF (RT Tryz.results46 ?_);refine rS (gf:=76) (bs:=[(22,.slc (l.map Nd.cv))]) (ids:=[0]) rfl (by simp) (by decide) ?_ ?_
 ·
  intro j x hx
  match j,hx with
  |0,hx=>cases hx;rfl
 intro x hx;simp only[List.mem_cons,List.not_mem_nil,or_false]at hx;subst hx;exact congrArg CV.slc (denilL_Nd l)
theorem aM5 (n:Nd)(L:List Bool)(lo m:Nat)(hl:L.length<2^40)(h0:0<L.length)(hlo:lo≤m)(hm:m≤L.length):
  HGe Tryz.prog 47 [.c n.cv,.osl 0 L.length lo 1 m] [.row 4 1 (L.map bC)] (fun r os'=>r= .c (.bool (iA n ((L.drop lo).take (m-lo))))∧os'=[.row 4 1 (L.map bC)]):=by
 obtain⟨V,hV⟩: ∃V,V=(L.drop lo).take (m-lo):=⟨_,rfl⟩;have hVl:V.length=m-lo:=by rw[hV];simp;omega
 rw[←hV];have hrd:List.take (m-lo) (List.drop lo (L.map bC))=V.map bC:=by rw[hV,List.map_take,List.map_drop]
 refine bR (args:=[.c n.cv,.osl 0 L.length lo 1 m]) Tryz.func47 rfl (by kernel_rfl) (eV rfl (by simp[eE,HO.men]) (by simp[HV.menL,HV.men])) (Nat.le_of_ble_eq_true rfl) ?_;have e0:lst [.row 4 1 (L.map bC)]=fob [(0,.row 4 1 (L.map bC))]:=by
  funext i
  match i with
  |0=>rfl
  |i+1=>simp[lst,fob,upd]
 show Hw _ _ 1 _ _ _ (lst _) 1;rw[e0];refine R0 ?_;refine R0 ?_;refine aC fun K hK=>?_;refine R0 ?_ (e:=fun _ h_=>by simp only[↓sP,sA,tyS,simprocAttr,hrd,List.length_map,h0,hlo,hm];exact AX h_);refine aL ?_;refine bD (α:={i:Nat//i≤V.length}) (fun i=>(fin [(1,.osl 0 L.length lo 1 m),(2,.ptr 1 0),(5,.c (.int .i64 (cnt (V.take i.1):Nat))),(8,.osl 0 L.length lo 1 m),(9,.c (.int .i64 V.length)),(10,.c (.int .i64 i.1))],fob [(0,.row 4 1 (L.map bC)),(1,.box 40 (.c n.cv))])) 100 (fun i=>V.length-i.1) ⟨0,by omega⟩ (aN (by omega) (by simp[aZ,fin_at,finA_at,upd_at,HV.men,HV.menL,HV.norm,HV.toC,HV.toCL,cnt]) (by simp[aY,fob_at,upd_at,none0_at,bU,HO.men,HV.men,HV.menL,HV.norm,HV.toC,HV.toCL,cnt])) ?_;rintro⟨i,hi⟩;have hcn:cnt (V.take i)≤i:=by have:=bJ3 (V.take i);simp at this;omega
 refine R0 ?_;refine aC fun K hK=>?_;refine aJ (b:=decide ((i:Int)<V.length)) rfl (fun hb=>?_) (fun hb=>?_)
 ·
  have hlt:i<V.length:=by simpa using hb
  have hct:=kJ (l:=V) (k:=i) hlt;have hw3:IntKind.i64.wrap ((cnt (V.take i):Int)+1)=((cnt (V.take i)+1:Nat):Int):=by rw[bQ _ (by omega)];rfl
  have hli:lo+i<L.length:=by omega
  have hvi:L[lo+i]=V[i]:=by simp[hV]
  have hli2:lo+i<(L.map bC).length:=by simpa using hli
  have hml:i<m-lo:=by omega
  clear hb;refine aK ?_;refine T0 (hK _ _ _ ?_);clear hK K;refine aC fun K hK=>?_;refine aL ?_;refine R0 ?_ (e:=fun _ h_=>by simp only[↓sP,sA,tyS,simprocAttr,List.length_map,Int.natCast_nonneg,Int.ofNat_lt,h0,hm,hml,hli,bN hli,bC];exact AX h_);refine R0 ?_;refine aJ (b:=L[lo+i]) rfl (fun hb=>?_) (fun hb=>?_)
  · rw[hvi]at hb;rw[if_pos (by simpa[hlt]using hb)]at hct;refine aM (by kernel_rfl) ?_;refine TQ hw3 ?_;refine AX (hK _ _ _ ?_);clear hK K;refine aM (by kernel_rfl) ?_;simp only[↓sP,sA,tyS,simprocAttr,bQ ((i:Int)+1) (by omega)];refine⟨⟨i+1,hlt⟩,aN (by omega) (by simp[aZ,fin_at,finA_at,upd_at,HV.men,HV.menL,HV.norm,HV.toC,HV.toCL,hct]) (by simp[aY,fob_at,upd_at,none0_at,bU,HO.men,HV.men,HV.menL,HV.norm,HV.toC,HV.toCL,hct]),?_⟩;show V.length-(i+1)<V.length-i;omega
  rw[hvi]at hb;rw[if_neg (by simp[hlt,hb])]at hct;refine aK ?_;refine T0 (hK _ _ _ ?_);clear hK K;refine aM (by kernel_rfl) ?_;simp only[↓sP,sA,tyS,simprocAttr,bQ ((i:Int)+1) (by omega)];refine⟨⟨i+1,hlt⟩,aN (by omega) (by simp[aZ,fin_at,finA_at,upd_at,HV.men,HV.menL,HV.norm,HV.toC,HV.toCL,hct]) (by simp[aY,fob_at,upd_at,none0_at,bU,HO.men,HV.men,HV.menL,HV.norm,HV.toC,HV.toCL,hct]),?_⟩;show V.length-(i+1)<V.length-i;omega
 refine bA (T3 ?_);clear hK K;refine AX (hK _ _ _ ?_);clear hK K;refine aC fun K hK=>?_;have hei:i=V.length:=by simp only[decide_eq_false_iff_not]at hb;omega
 subst hei;rw[List.take_length]at hcn⊢;clear hb;refine R0 ?_;refine aL ?_;refine R0 ?_;refine aJ (b:=(n.k==2)) rfl (fun hb=>?_) (fun hb=>?_)
 ·
  refine aC fun K hK=>Rg ?_;iterate 5 refine S0 ?_ (e:=fun _ h_=>by simp only[sH,↓sP,sA,tyS,simprocAttr,hrd,List.length_map,h0,hlo,hm];exact AX h_)
  refine T2 (hK _ _ _ ?_);clear hK K;refine aF (RT Tryz.results47 ?_);have h2:n.k=2:=by simpa using hb
  exact eA [] [] (.c (.bool ((cnt V:Int)==V.length))) [.row 4 1 (L.map bC)] rfl (by simp[HV.men]) ⟨⟨trivial,by simp,_,rfl,rfl⟩,trivial⟩ rfl List.nodup_nil (by simp) (by simp) ⟨by rw[iA,if_pos h2];congr 2;rw[Bool.eq_iff_iff];simp;omega,rfl⟩
 have h2:n.k≠2:=by simpa using hb
 refine R0 ?_;refine aJ (b:=(n.k==3)) rfl (fun hb=>?_) (fun hb=>?_)
 ·
  refine R0 ?_;refine aF (RT Tryz.results47 ?_);have h3:n.k=3:=by simpa using hb
  exact eA [] [] (.c (.bool (decide ((1:Int)≤cnt V)))) [.row 4 1 (L.map bC)] rfl (by simp[HV.men]) ⟨⟨trivial,by simp,_,rfl,rfl⟩,trivial⟩ rfl List.nodup_nil (by simp) (by simp) ⟨by rw[iA,if_neg h2,if_pos h3];congr 2;rw[Bool.eq_iff_iff];simp;omega,rfl⟩
 refine aK ?_;refine T0 (hK _ _ _ ?_);clear hK K;refine aC fun K hK=>Rg ?_;iterate 5 refine S0 ?_
 refine T2 (hK _ _ _ ?_);clear hK K;refine aF (RT Tryz.results47 ?_);have h3:n.k≠3:=by simpa using hb
 exact eA [] [] (.c (.bool (decide (n.n≤cnt V)))) [.row 4 1 (L.map bC)] rfl (by simp[HV.men]) ⟨⟨trivial,by simp,_,rfl,rfl⟩,trivial⟩ rfl List.nodup_nil (by simp) (by simp) ⟨by rw[iA,if_neg h2,if_neg h3],rfl⟩
end Go.Proofs.YtlldglbooaefhaaGreatDoor
namespace Go.Pl
open Go Go.Hl
def kY (w:List Bool)(m:Nat)(b:Bool):List Bool:=w.take m++[b]++w.drop (m+1)
variable {b:Bool}{m:Nat}{w:List Bool}
theorem kZ (h:m+1≤w.length):(kY w m b).length=w.length:=by simp[kY];omega
theorem zP :kY w w.length b=w++[b]:=by simp[kY]
theorem zQ (h:m≤w.length):(kY w m b).take (m+1)=w.take m++[b]:=by grind[kY,List.take_of_length_le]
def aS2 (l:List Nd)(tr:List Bool)(p:Nat)(s:List Bool×Nat):List Bool×Nat:=
 if(l.getD p nd0).k=1 then(kY s.1 s.2 (tr.getD (lv (l.take p)) false),s.2+1)
 else(kY s.1 (s.2-(l.getD p nd0).c.toNat) (iA (l.getD p nd0) ((s.1.drop (s.2-(l.getD p nd0).c.toNat)).take (l.getD p nd0).c.toNat)),s.2-(l.getD p nd0).c.toNat+1)
def cB (l:List Nd)(tr:List Bool):Nat→List Bool×Nat
 |0=>([],0)
 |i+1=>aS2 l tr (l.length-1-i) (cB l tr i)
structure EvOk (l:List Nd)(tr:List Bool)(i:Nat):Prop where
 le:i≤l.length
 m:(cB l tr i).2=(evS (lv l) tr (l.drop (l.length-i))).length
 row:(cB l tr i).1.take (cB l tr i).2=(evS (lv l) tr (l.drop (l.length-i))).reverse
 fit:(cB l tr i).2≤(cB l tr i).1.length
 small:(cB l tr i).1.length≤i
theorem EvOk.zero (l:List Nd)(tr:List Bool):EvOk l tr 0:=⟨by omega,by simp[cB,evS],by simp[cB,evS],by simp[cB],by simp[cB]⟩
theorem xM (n:Nd)(l:List Bool):iA n l.reverse=iA n l:=by simp only[iA,aJ2,List.length_reverse]
variable {c:Nat}{E:List Bool}
theorem bP6 :E.reverse.take (E.length-c)=(E.drop c).reverse:=by rw[List.reverse_drop]
theorem bP7 (h:c≤E.length):E.reverse.drop (E.length-c)=(E.take c).reverse:=by rw[List.reverse_take]
variable {i:Nat}{l:List Nd}
theorem EvOk.at_ {tr:List Bool}(hi:i<l.length):l.drop (l.length-(i+1))=l[l.length-1-i]'(by omega)::l.drop (l.length-i):=by grind[List.drop_eq_getElem_cons]
variable {tr:List Bool}
theorem EvOk.leaf (h:EvOk l tr i)(hi:i<l.length)(hk:(l[l.length-1-i]'(by omega)).k=1):
  EvOk l tr (i+1)∧cB l tr (i+1)=(kY (cB l tr i).1 (cB l tr i).2 (tr.getD (lv (l.take (l.length-1-i))) false),(cB l tr i).2+1):=by
 have hp:l.length-1-i<l.length:=by omega
 have hg:l.getD (l.length-1-i) nd0=l[l.length-1-i]:=by simp[hp]
 have e:cB l tr (i+1)=(kY (cB l tr i).1 (cB l tr i).2 (tr.getD (lv (l.take (l.length-1-i))) false),(cB l tr i).2+1):=by
  simp only[cB,aS2,hg,if_pos hk]
 have hT:=qH l (l.length-1-i);have hd:=EvOk.at_ (tr:=tr) hi;rw[show l.length-(i+1)=l.length-1-i from by omega]at hd;have hE:evS (lv l) tr (l.drop (l.length-(i+1)))=tr.getD (lv (l.take (l.length-1-i))) false::evS (lv l) tr (l.drop (l.length-i)):=by
  rw[show l.length-(i+1)=l.length-1-i from by omega,hd,evS,if_pos hk,←hd];congr 2;omega
 refine⟨⟨hi,?_,?_,?_,?_⟩,e⟩
 · rw[e,hE];simp[h.m]
 · rw[e,hE];simp only[List.reverse_cons];rw[zQ h.fit,h.row]
 · rw[e];have:=h.fit;simp[kY];omega
 · rw[e];have:=h.fit;have:=h.small;simp[kY];omega
theorem EvOk.inner (ht:IsTree l)(h:EvOk l tr i)(hi:i<l.length)(hk:(l[l.length-1-i]'(by omega)).k≠1):
  (l[l.length-1-i]'(by omega)).c.toNat≤(cB l tr i).2∧EvOk l tr (i+1)∧
  cB l tr (i+1)=(kY (cB l tr i).1 ((cB l tr i).2-(l[l.length-1-i]'(by omega)).c.toNat) (iA (l[l.length-1-i]'(by omega)) (((cB l tr i).1.drop ((cB l tr i).2-(l[l.length-1-i]'(by omega)).c.toNat)).take (l[l.length-1-i]'(by omega)).c.toNat)),(cB l tr i).2-(l[l.length-1-i]'(by omega)).c.toNat+1):=by
 have hp:l.length-1-i<l.length:=by omega
 have hg:l.getD (l.length-1-i) nd0=l[l.length-1-i]:=by simp[hp]
 have e:cB l tr (i+1)=(kY (cB l tr i).1 ((cB l tr i).2-(l[l.length-1-i]'(by omega)).c.toNat) (iA (l[l.length-1-i]'(by omega)) (((cB l tr i).1.drop ((cB l tr i).2-(l[l.length-1-i]'(by omega)).c.toNat)).take (l[l.length-1-i]'(by omega)).c.toNat)),(cB l tr i).2-(l[l.length-1-i]'(by omega)).c.toNat+1):=by
  simp only[cB,aS2,hg,if_neg hk]
 have hkl:=aJ5 ht (tr:=tr) hp;rw[show l.length-1-i+1=l.length-i from by omega]at hkl;obtain⟨_,_,_,c4⟩:=cI (ht.node _ (List.getElem_mem hp));have c5:=c4 hk;have c6:1≤l[l.length-1-i].c.toNat:=by omega
 have hd:=EvOk.at_ (tr:=tr) hi;have hm:=h.m;have hr:=h.row;have hf:=h.fit;have hs:=h.small;have hE:evS (lv l) tr (l.drop (l.length-(i+1)))=iA l[l.length-1-i] ((evS (lv l) tr (l.drop (l.length-i))).take l[l.length-1-i].c.toNat)::(evS (lv l) tr (l.drop (l.length-i))).drop l[l.length-1-i].c.toNat:=by
  rw[hd,evS,if_neg hk]
 generalize evS (lv l) tr (l.drop (l.length-i))=E at hm hr hkl hE;generalize l[l.length-1-i].c.toNat=c at*;have h1:(cB l tr i).1.take ((cB l tr i).2-c)=(E.drop c).reverse:=by
  rw[←bP6,←hr,List.take_take,hm,Nat.min_eq_left (by omega)]
 have h2:((cB l tr i).1.drop ((cB l tr i).2-c)).take c=(E.take c).reverse:=by
  rw[←bP7 hkl,←hr,List.drop_take,hm];congr 1;omega
 refine⟨by omega,⟨hi,?_,?_,?_,?_⟩,e⟩
 · rw[e,hE];simp only[List.length_cons,List.length_drop];omega
 · rw[e,hE];simp only[List.reverse_cons];rw[zQ (by omega),h1,h2,xM]
 · rw[e];simp only;rw[kZ (by omega)];omega
 · rw[e];simp only;rw[kZ (by omega)];omega
theorem EvOk.fin (ht:IsTree l)(h:EvOk l tr l.length):(cB l tr l.length).2=1∧ ∃h0:0<(cB l tr l.length).1.length,oR l tr=(cB l tr l.length).1[0]:=by
 have hl:=aC0 (T:=lv l) (tr:=tr) l 1 ht.node ht.skip;have hm:=h.m;have hr:=h.row;have hf:=h.fit;rw[Nat.sub_self,List.drop_zero]at hm hr;rw[hl]at hm;have h0:0<(cB l tr l.length).1.length:=by omega
 refine⟨hm,h0,?_⟩;have ht':=bL1 ht;obtain⟨x,hx⟩: ∃x,evS (lv l) tr l=[x]:=by
  match hE:evS (lv l) tr l,hl with
  |[x],_=>exact⟨x,rfl⟩
 rw[hx,hm]at hr;rw[oR,ht',hx];have:(cB l tr l.length).1[0]=x:=by
  have:=congrArg (·.head?) hr;simpa[List.head?_take,List.head?_eq_getElem?,h0]using this
 rw[this];rfl
end Go.Pl
namespace Go.Proofs.YtlldglbooaefhaaGreatDoor
open Go Go.Hl Go.Pl
set_option maxRecDepth 10000
set_option maxHeartbeats 16000000
theorem cC (id n sz m:Nat):(gV id n sz m).sto=true:=by unfold gV;split<;>rfl
theorem bP (id n sz m:Nat):(gV id n sz m).cells=1:=by unfold gV;split<;>rfl
theorem bT (id n sz m:Nat):(gV id n sz m).toC=none:=by unfold gV;split<;>rfl
theorem cS (id n sz:Nat):gV id n sz n= .own id n:=by unfold gV;rw[if_pos rfl]
variable {n:Nat}
theorem cM {id sz m:Nat}(h:m≠n):gV id n sz m= .osl id n 0 sz m:=by unfold gV;rw[if_neg h]
theorem oH {M:Nat→Prop}{id sz m:Nat}(h:M id):(gV id n sz m).men M:=by unfold gV;split<;>exact h
theorem aD9 (l:List Nd)(hn: ∀n∈l,n.q.t.length<2^63)(tr:List Bool)(htr:tr.length<2^63):bW Tryz.prog 20 [.slc (l.map Nd.cv),.slc (tr.map bC)] (fun v=>v= .bool (oR l tr)):=by
 refine FW Tryz.func20 ?_;have F:=rI;refine RF ?_;refine aC fun K hK=>Rg ?_;refine SF ?_;refine HS rfl rfl fun K' hK'=>T6 ?_;refine C1 (rZ l hn) ?_;rintro u rfl;refine AX (hK' _ _ ?_);clear hK' K';iterate 3 refine SF ?_
 simp only[sE,↓reduceIte,simprocAttr,rI];refine AX (hK _ _ _ ?_);clear hK K;refine aC fun K hK=>?_;refine RF ?_;refine aJ (b:=(((gI l).length:Int)==0)) rfl (fun hb=>?_) (fun hb=>?_)
 ·
  refine RF ?_;refine aF ?_;simp only[gE,Tryz.results20,fI,gD,eT,↓sP,sA,tyS,simprocAttr,rI];have hlv:gI l=[]:=by simpa using hb
  have htf:cT l=false:=by
   cases h:cT l with
   |false=>rfl
   |true=>
    have h1:=aJ1 (fK h);rw[jJ h]at hlv;have h2:=gQ l 0;rw[hlv]at h2;simp at h2;omega
  exact aH [] (.bool false) rfl (by rw[oR,htf];rfl)
 have htt:cT l=true:=by
  cases h:cT l with
  |true=>rfl
  |false=>rw[jY h]at hb;simp at hb
 have ht:=fK htt;have hl:=ht.len;have hlen:(gI l).length=lv l:=by rw[jJ htt,gQ]
 rw[hlen];clear hb;refine aK ?_;refine TQ rI ?_;refine AX (hK _ _ _ ?_);clear hK K;refine RF ?_;refine aC fun K hK=>?_;refine aC fun K hK=>Rg ?_;refine S0 ?_ (e:=fun _ h_=>by simp only[sH,↓sP,sA,tyS,simprocAttr,rI,denilL_Nd,lU,gG,List.range',List.map_cons,List.map_nil];exact AX h_);refine HS rfl rfl fun K' hK'=>?_;simp only[sH,↓sP,sA,tyS,simprocAttr,rI,denilL_Nd,lU,gG,List.range',List.map_cons,List.map_nil];refine rR (args:=[_]) (bX3 l) (by simp) ⟨rfl,rfl,rfl,rfl⟩ ?_;refine AX (hK' _ _ ?_);clear hK' K';simp only[sE,↓reduceIte,simprocAttr,rI];refine AX (hK _ _ _ ?_);clear hK K;refine aL ?_;refine aA9 36 0 4 1 rfl rfl rfl rfl ?_;refine yO (ids:=[44]) (fin [(3,.ptr 0 0),(5,.ptr 20 0),(6,.ptr 36 0)]) (fun i=>fob [(0,.box 24 (.c (.slc (tr.map bC)))),(20,.box 3 (.c (.int .i64 (lv (l.take (l.length-i)):Nat)))),(36,.box 24 (gV 48 (cB l tr i).1.length 1 (cB l tr i).2)),(48,.row 4 1 ((cB l tr i).1.map bC))]) 20000 (fun i=>EvOk l tr i) (EvOk.zero l tr) (bE0 l (by omega)) rfl rfl (by decide) ?_ ?_ ?_ ?_ ?_ rfl rfl ?_ ?_
 ·
  intro j x hx
  match j,hx with
  |0,hx=>cases hx;rfl
 · exact aN (by omega) (by simp[aZ,fin_at,finA_at,upd_at,HV.men,HV.menL,HV.norm,HV.toC,HV.toCL,lU,cB,cS,List.take_length]) (by simp[aY,fob_at,upd_at,none0_at,bU,HO.men,HV.men,HV.menL,HV.norm,HV.toC,HV.toCL,lU,cB,cS,List.take_length])
 · intro id hid;simp only[List.mem_cons,List.not_mem_nil,or_false]at hid;subst hid;rfl
 · intro x hx;obtain⟨p,_,rfl⟩:=List.mem_map.1 hx;rfl
 · intro p hp;simp only[List.mem_cons,List.not_mem_nil,or_false]at hp;rcases hp with rfl|rfl<;>exact Nat.le_of_ble_eq_true rfl
 ·
  intro i hi hΦ K hK;have hi2:i<l.length:=by rw[←qQ l];exact hi
  have hp:l.length-1-i<l.length:=by omega
  rw[bM8 hi hp];simp only[vP];obtain⟨w,hw⟩: ∃w,w=(cB l tr i).1:=⟨_,rfl⟩;obtain⟨m,hm⟩: ∃m,m=(cB l tr i).2:=⟨_,rfl⟩;have hfit:=hΦ.fit;have hsmall:=hΦ.small;rw[←hw,←hm]at hfit;rw[←hw]at hsmall;rw[←hw,←hm];refine aM (by kernel_rfl) ?_;refine TQ rI ?_;refine AX (hK _ _ _ ?_);clear hK K;refine aL ?_;refine aC fun K hK=>?_;refine RF ?_;refine aJ (b:=(l[l.length-1-i].k==1)) rfl (fun hb=>?_) (fun hb=>?_)
  ·
   have hk1:l[l.length-1-i].k=1:=by simpa using hb
   obtain⟨hok,hst⟩:=hΦ.leaf hi2 hk1;rw[←hw,←hm]at hst;have hlv:=aC4 hp;rw[if_pos hk1,show l.length-1-i+1=l.length-i from by omega]at hlv;have hlb:=wN l (l.length-1-i);have hw1:IntKind.i64.wrap ((lv (l.take (l.length-i)):Int)-1)=((lv (l.take (l.length-1-i)):Nat):Int):=by rw[hlv,bQ _ (by omega)];omega
   obtain⟨x,hx⟩: ∃x,x=lv (l.take (l.length-1-i)):=⟨_,rfl⟩;have hxl:l.length-(i+1)=l.length-1-i:=by omega
   rw[←hx]at hw1 hst;clear hb;have F:=aI rI hw1;refine RF ?_;by_cases hlt:x<tr.length
   ·
    by_cases hmw:m=w.length
    ·
     subst hmw;have hg:tr.getD x false=tr[x]:=by simp[hlt]
     refine aC fun K hK=>eZ mixed [(0,[],[]),(1,[],[]),(2,[],[]),(3,[],[]),(4,[],[]),(5,[],[]),(6,[],[]),(7,[],[]),(8,[],[]),(9,[],[]),(10,[],[]),(11,[],[]),(12,[],[]),(13,[],[])] [0,0,0,4,14,30,62,62,254,510,1022,2046,4095,8191] (by kernel_rfl) (by kernel_rfl) (by kernel_rfl) (by kernel_rfl) rfl (by kernel_rfl) ?_;iterate 14 refine WG0 ?_ (e:=fun _ h_=>by simp only[sH,↓sP,sA,tyS,simprocAttr,rI,Int.natCast_nonneg,Int.ofNat_lt,hlt,bN hlt,bC,cS,cC,bP,bT];exact AX h_)
     simp only[sE,↓reduceIte,simprocAttr,rI];refine AX (hK _ _ _ ?_);clear hK K;refine bA ?_;refine TQ rI ?_;clear hK K;rw[hg,zP]at hst;refine⟨(show Fits 20000 _ _ (fin []) _ 20000 from aN (by omega) trivial ?_),hok⟩;rw[hst,hxl,←hx];simp[aY,fob_at,upd_at,none0_at,bU,HO.men,HV.men,HV.menL,HV.norm,HV.toC,HV.toCL,cS,bC]
    have hg:tr.getD x false=tr[x]:=by simp[hlt]
    have hmw2:m+1≤w.length:=by omega
    have hw0:0<w.length:=by omega
    have hrow:(kY w m tr[x]).map bC=(w.map bC).take m++[.bool tr[x]]++(w.map bC).drop (m+1):=by simp[kY,List.map_take,List.map_drop,bC]
    refine aC fun K hK=>eZ mixed [(0,[],[]),(1,[],[]),(2,[],[]),(3,[],[]),(4,[],[]),(5,[],[]),(6,[],[]),(7,[],[]),(8,[],[]),(9,[],[]),(10,[],[]),(11,[],[]),(12,[],[]),(13,[],[])] [0,0,0,4,14,30,62,62,254,510,1022,2046,4095,8191] (by kernel_rfl) (by kernel_rfl) (by kernel_rfl) (by kernel_rfl) rfl (by kernel_rfl) ?_;iterate 12 refine WG0 ?_ (e:=fun _ h_=>by simp only[sH,↓sP,sA,tyS,simprocAttr,rI,Int.natCast_nonneg,Int.ofNat_lt,hlt,bN hlt,bC,cM hmw,cC,bP,bT,hw0,hmw2];exact AX h_)
    refine eM (g:=none) rfl rfl fun K' hK'=>?_;simp only[sN,↓hopH.eq_def,sH,↓sP,sA,tyS,simprocAttr,rI,Int.natCast_nonneg,Int.ofNat_lt,hlt,bN hlt,bC,cM hmw,cC,bP,bT,hw0,hmw2];refine AX (hK' _ _ ?_);clear hK' K';refine WG0 ?_ (e:=fun _ h_=>by simp only[sH,↓sP,sA,tyS,simprocAttr,rI,Int.natCast_nonneg,Int.ofNat_lt,hlt,bN hlt,bC,cM hmw,cC,bP,bT,hw0,hmw2];exact AX h_);simp only[sE,↓reduceIte,simprocAttr,rI];refine AX (hK _ _ _ ?_);clear hK K;refine bA ?_;refine TQ rI ?_;clear hK K;rw[hg]at hst;refine⟨(show Fits 20000 _ _ (fin []) _ 20000 from aN (by omega) trivial ?_),hok⟩;rw[hst,hxl,←hx];simp[aY,fob_at,upd_at,none0_at,bU,HO.men,HV.men,HV.menL,HV.norm,HV.toC,HV.toCL,kZ hmw2,hrow,oH,bT]
   by_cases hmw:m=w.length
   ·
    subst hmw;have hg:tr.getD x false=false:=by simp[List.getD_eq_getElem?_getD,List.getElem?_eq_none (Nat.le_of_not_lt hlt)]
    have hlt':decide ((x:Int)<tr.length)=false:=by simp;omega
    refine aC fun K hK=>eZ mixed [(0,[],[]),(1,[],[]),(2,[],[]),(3,[],[]),(4,[],[]),(5,[],[]),(6,[],[]),(7,[],[]),(8,[],[]),(9,[],[]),(10,[],[]),(11,[],[]),(12,[],[]),(13,[],[])] [0,0,0,4,14,30,62,62,254,510,1022,2046,4095,8191] (by kernel_rfl) (by kernel_rfl) (by kernel_rfl) (by kernel_rfl) rfl (by kernel_rfl) ?_;have F:=aI rI (aI hlt' (aI @cS (aI @cC (aI @bP @bT))));iterate 14 refine WGF ?_
    simp only[sE,↓reduceIte,simprocAttr,rI];refine AX (hK _ _ _ ?_);clear hK K;refine bA ?_;refine TQ rI ?_;clear hK K;rw[hg,zP]at hst;refine⟨(show Fits 20000 _ _ (fin []) _ 20000 from aN (by omega) trivial ?_),hok⟩;rw[hst,hxl,←hx];simp[aY,fob_at,upd_at,none0_at,bU,HO.men,HV.men,HV.menL,HV.norm,HV.toC,HV.toCL,cS,bC]
   have hg:tr.getD x false=false:=by simp[List.getD_eq_getElem?_getD,List.getElem?_eq_none (Nat.le_of_not_lt hlt)]
   have hlt':decide ((x:Int)<tr.length)=false:=by simp;omega
   have hmw2:m+1≤w.length:=by omega
   have hw0:0<w.length:=by omega
   have hrow:(kY w m false).map bC=(w.map bC).take m++[.bool false]++(w.map bC).drop (m+1):=by simp[kY,List.map_take,List.map_drop,bC]
   refine aC fun K hK=>eZ mixed [(0,[],[]),(1,[],[]),(2,[],[]),(3,[],[]),(4,[],[]),(5,[],[]),(6,[],[]),(7,[],[]),(8,[],[]),(9,[],[]),(10,[],[]),(11,[],[]),(12,[],[]),(13,[],[])] [0,0,0,4,14,30,62,62,254,510,1022,2046,4095,8191] (by kernel_rfl) (by kernel_rfl) (by kernel_rfl) (by kernel_rfl) rfl (by kernel_rfl) ?_;iterate 12 refine WG0 ?_ (e:=fun _ h_=>by simp only[sH,↓sP,sA,tyS,simprocAttr,rI,hlt',cM hmw,cC,bP,bT,hw0,hmw2];exact AX h_)
   refine eM (g:=none) rfl rfl fun K' hK'=>?_;simp only[sN,↓hopH.eq_def,sH,↓sP,sA,tyS,simprocAttr,rI,hlt',cM hmw,cC,bP,bT,hw0,hmw2];refine AX (hK' _ _ ?_);clear hK' K';refine WG0 ?_ (e:=fun _ h_=>by simp only[sH,↓sP,sA,tyS,simprocAttr,rI,hlt',cM hmw,cC,bP,bT,hw0,hmw2];exact AX h_);simp only[sE,↓reduceIte,simprocAttr,rI];refine AX (hK _ _ _ ?_);clear hK K;refine bA ?_;refine TQ rI ?_;clear hK K;rw[hg]at hst;refine⟨(show Fits 20000 _ _ (fin []) _ 20000 from aN (by omega) trivial ?_),hok⟩;rw[hst,hxl,←hx];simp[aY,fob_at,upd_at,none0_at,bU,HO.men,HV.men,HV.menL,HV.norm,HV.toC,HV.toCL,kZ hmw2,hrow,oH,bT]
  have hk1:l[l.length-1-i].k≠1:=by simpa using hb
  obtain⟨hcm,hok,hst⟩:=hΦ.inner ht hi2 hk1;rw[←hw,←hm]at hst;rw[←hm]at hcm;obtain⟨c1,c2,c3,c4⟩:=cI (ht.node _ (List.getElem_mem hp));have c5:=c4 hk1;have hlv:=aC4 hp;rw[if_neg hk1,Nat.add_zero,show l.length-1-i+1=l.length-i from by omega]at hlv;have hxl:l.length-(i+1)=l.length-1-i:=by omega
  obtain⟨f,hf⟩: ∃f,f=m-l[l.length-1-i].c.toNat:=⟨_,rfl⟩;have hfc:m-f=l[l.length-1-i].c.toNat:=by omega
  rw[←hf,←hfc]at hst;have hw2:IntKind.i64.wrap ((m:Int)-l[l.length-1-i].c)=(f:Int):=by rw[bQ _ (by omega)];omega
  have hf1:f+1≤w.length:=by omega
  have hfw:f≤w.length:=by omega
  have hfm:f≤m:=by omega
  have hw0:0<w.length:=by omega
  obtain⟨h,hh⟩: ∃h,h=iA l[l.length-1-i] ((w.drop f).take (m-f)):=⟨_,rfl⟩;rw[←hh]at hst;have hrow:(kY w f h).map bC=(w.map bC).take f++[.bool h]++(w.map bC).drop (f+1):=by simp[kY,List.map_take,List.map_drop,bC]
  clear hb;refine aK ?_;refine TQ rI ?_;refine AX (hK _ _ _ ?_);clear hK K;by_cases hmw:m=w.length
  ·
   rw[←hmw]at hw0 hf1 hfw;refine aC fun K hK=>Rg ?_;iterate 6 refine S0 ?_ (e:=fun _ h_=>by simp only[sH,↓sP,sA,tyS,simprocAttr,rI,cS,←hmw,List.length_map,hw2];exact AX h_)
   simp only[sE,↓reduceIte,simprocAttr,rI];refine AX (hK _ _ _ ?_);clear hK K;refine eZ mixed [(0,[],[]),(1,[],[]),(2,[],[]),(3,[],[]),(4,[],[]),(5,[],[]),(6,[],[]),(7,[],[0,1,2]),(8,[],[]),(9,[],[]),(10,[],[])] [0,0,3,0,0,0,48,120,248,511,1023] (by kernel_rfl) (by kernel_rfl) (by kernel_rfl) (by kernel_rfl) rfl (by kernel_rfl) ?_;iterate 7 refine WG0 ?_ (e:=fun _ h_=>by simp only[sH,↓sP,sA,tyS,simprocAttr,rI,cS,cC,bP,bT,←hmw,List.length_map,Int.natCast_nonneg,Int.ofNat_le,hfw];exact AX h_)
   refine oM (g:=none) rfl rfl fun K' hK'=>?_;simp only[sN,↓hopH.eq_def,sH,↓sP,sA,tyS,simprocAttr,rI,cS,cC,bP,bT,←hmw,List.length_map,Int.natCast_nonneg,Int.ofNat_le,hfw];refine aH9 [48] (aM5 l[l.length-1-i] w f m (by omega) (by omega) (by omega) (by omega)) (by first|rfl|(rw[←hmw];rfl)) ⟨rfl,trivial⟩ (by simp) ?_ ?_ ?_ ?_ ?_
   ·
    intro j hj
    match j,hj with
    |0,_=>exact .inr ⟨by decide,fun r os' h=>by rw[h.2]⟩
   · exact⟨rfl,rfl,rfl,rfl⟩
   · simp[eE,HO.men]
   · simp[HV.menL,HV.men]
   rintro r os' ⟨rfl,rfl⟩;rw[←hh,show∀n ob,jD (sub [48] n) ob 0 [.row 4 1 (w.map bC)]=upd ob 48 (some (.row 4 1 (w.map bC)))from fun _ _=>rfl,show∀n b,HV.ren (sub [48] n) (.c b)= .c b from fun _ _=>rfl];refine AX (hK' _ _ ?_);clear hK' K';refine WG0 ?_ (e:=fun _ h_=>by simp only[sH,↓sP,sA,tyS,simprocAttr,rI,cS,cC,bP,bT,←hmw,List.length_map,Int.natCast_nonneg,Int.ofNat_le,hfw];exact AX h_);refine eM (g:=none) rfl rfl fun K' hK'=>?_;simp only[sN,↓hopH.eq_def,sH,↓sP,sA,tyS,simprocAttr,rI,cS,cC,bP,bT,←hmw,List.length_map,Int.natCast_nonneg,Int.ofNat_le,hfw];refine AX (hK' _ _ ?_);clear hK' K';refine WG0 ?_ (e:=fun _ h_=>by simp only[sH,↓sP,sA,tyS,simprocAttr,rI,cS,cC,bP,bT,←hmw,List.length_map,Int.natCast_nonneg,Int.ofNat_le,hfw];exact AX h_);simp only[sE,↓reduceIte,simprocAttr,rI];refine⟨(show Fits 20000 _ _ (fin []) _ 20000 from aN (by omega) trivial ?_),hok⟩;rw[hst,hxl,hlv];simp[aY,fob_at,upd_at,none0_at,bU,HO.men,HV.men,HV.menL,HV.norm,HV.toC,HV.toCL,kZ (show f+1≤w.length by omega),hrow,oH,bT,←hmw]
  refine aC fun K hK=>Rg ?_;iterate 6 refine S0 ?_ (e:=fun _ h_=>by simp only[sH,↓sP,sA,tyS,simprocAttr,rI,cM hmw,List.length_map,hw0,hfit,Nat.zero_le,List.length_take,List.length_drop,Nat.sub_zero,Nat.min_eq_left hfit,hw2];exact AX h_)
  simp only[sE,↓reduceIte,simprocAttr,rI];refine AX (hK _ _ _ ?_);clear hK K;refine eZ mixed [(0,[],[]),(1,[],[]),(2,[],[]),(3,[],[]),(4,[],[]),(5,[],[]),(6,[],[]),(7,[],[0,1,2]),(8,[],[]),(9,[],[]),(10,[],[])] [0,0,3,0,0,0,48,120,248,511,1023] (by kernel_rfl) (by kernel_rfl) (by kernel_rfl) (by kernel_rfl) rfl (by kernel_rfl) ?_;iterate 2 refine WG0 ?_ (e:=fun _ h_=>by simp only[sH,↓sP,sA,tyS,simprocAttr,rI,cC,bP,bT,cM hmw,List.length_map,Int.natCast_nonneg,Int.ofNat_le,hfw,hfm];exact AX h_)
  refine eM (g:=none) rfl rfl fun K' hK'=>?_;simp only[sN,↓hopH.eq_def,sH,↓sP,sA,tyS,simprocAttr,rI,cC,bP,bT,cM hmw,List.length_map,Int.natCast_nonneg,Int.ofNat_le,hfw,hfm];refine AX (hK' _ _ ?_);clear hK' K';iterate 3 refine WG0 ?_ (e:=fun _ h_=>by simp only[sH,↓sP,sA,tyS,simprocAttr,rI,cC,bP,bT,cM hmw,List.length_map,Int.natCast_nonneg,Int.ofNat_le,hfw,hfm];exact AX h_)
  refine eM (g:=none) rfl rfl fun K' hK'=>?_;simp only[sN,↓hopH.eq_def,sH,↓sP,sA,tyS,simprocAttr,rI,cC,bP,bT,cM hmw,List.length_map,Int.natCast_nonneg,Int.ofNat_le,hfw,hfm];refine AX (hK' _ _ ?_);clear hK' K';refine oM (g:=none) rfl rfl fun K' hK'=>?_;simp only[sN,↓hopH.eq_def,sH,↓sP,sA,tyS,simprocAttr,rI,cC,bP,bT,cM hmw,List.length_map,Int.natCast_nonneg,Int.ofNat_le,hfw,hfm];refine aH9 [48] (aM5 l[l.length-1-i] w f m (by omega) (by omega) (by omega) (by omega)) (by first|rfl|(rw[←hmw];rfl)) ⟨rfl,trivial⟩ (by simp) ?_ ?_ ?_ ?_ ?_
  ·
   intro j hj
   match j,hj with
   |0,_=>exact .inr ⟨by decide,fun r os' h=>by rw[h.2]⟩
  · exact⟨rfl,rfl,rfl,rfl⟩
  · simp[eE,HO.men]
  · simp[HV.menL,HV.men]
  rintro r os' ⟨rfl,rfl⟩;rw[←hh,show∀n ob,jD (sub [48] n) ob 0 [.row 4 1 (w.map bC)]=upd ob 48 (some (.row 4 1 (w.map bC)))from fun _ _=>rfl,show∀n b,HV.ren (sub [48] n) (.c b)= .c b from fun _ _=>rfl];refine AX (hK' _ _ ?_);clear hK' K';refine WG0 ?_ (e:=fun _ h_=>by simp only[sH,↓sP,sA,tyS,simprocAttr,rI,cC,bP,bT,cM hmw,List.length_map,Int.natCast_nonneg,Int.ofNat_le,hfw,hfm];exact AX h_);refine eM (g:=none) rfl rfl fun K' hK'=>?_;simp only[sN,↓hopH.eq_def,sH,↓sP,sA,tyS,simprocAttr,rI,cC,bP,bT,cM hmw,List.length_map,Int.natCast_nonneg,Int.ofNat_le,hfw,hfm];refine AX (hK' _ _ ?_);clear hK' K';refine WG0 ?_ (e:=fun _ h_=>by simp only[sH,↓sP,sA,tyS,simprocAttr,rI,cC,bP,bT,cM hmw,List.length_map,Int.natCast_nonneg,Int.ofNat_le,hfw,hfm];exact AX h_);simp only[sE,↓reduceIte,simprocAttr,rI];refine⟨(show Fits 20000 _ _ (fin []) _ 20000 from aN (by omega) trivial ?_),hok⟩;rw[hst,hxl,hlv];simp[aY,fob_at,upd_at,none0_at,bU,HO.men,HV.men,HV.menL,HV.norm,HV.toC,HV.toCL,kZ hf1,hrow,oH,bT]
 intro hΦ;simp only[sE,↓reduceIte,simprocAttr,rI];have hfin:=hΦ;rw[qQ]at hfin;obtain⟨h1,h0,h2⟩:=hfin.fin ht;rw[qQ,h1];obtain⟨w,hw⟩: ∃w,w=(cB l tr l.length).1:=⟨_,rfl⟩;rw[←hw]at h0;have h3:oR l tr=w[0]:=by rw[h2];simp only[hw]
 rw[←hw];refine AX (hK _ _ _ ?_);clear hK K;by_cases hw1:w.length=1
 ·
  rw[hw1];refine aC fun K hK=>Rg ?_;iterate 4 refine S0 ?_ (e:=fun _ h_=>by simp only[sH,↓sP,sA,tyS,simprocAttr,rI,cS,bN h0,bC,Nat.lt_irrefl];exact AX h_)
  simp only[sE,↓reduceIte,simprocAttr,rI];refine AX (hK _ _ _ ?_);clear hK K;refine aF ?_;simp only[gE,Tryz.results20,fI,gD,eT,↓sP,sA,tyS,simprocAttr,rI];exact aH [] (.bool w[0]) rfl (by rw[h3])
 refine aC fun K hK=>Rg ?_;iterate 4 refine S0 ?_ (e:=fun _ h_=>by simp only[sH,↓sP,sA,tyS,simprocAttr,rI,cM (Ne.symm hw1),bN h0,bC,h0];exact AX h_)
 simp only[sE,↓reduceIte,simprocAttr,rI];refine AX (hK _ _ _ ?_);clear hK K;refine aF ?_;simp only[gE,Tryz.results20,fI,gD,eT,↓sP,sA,tyS,simprocAttr,rI];exact aH [] (.bool w[0]) rfl (by rw[h3])
theorem bX4 (ns im:aG)(r:Pr):bW Tryz.prog 71 [r.cv,.rp (.str ns),.rp (.str im)] (fun v=>v= .bool (zD ns im r)):=by
 refine FW Tryz.func71 ?_;refine R0 ?_;refine aC fun K hK=>Rg ?_;iterate 3 refine S0 ?_
 refine HS rfl rfl fun K' hK'=>T5 ?_;refine C2 (aK9 r.b ns) ?_;rintro u rfl;refine AX (hK' _ _ ?_);clear hK' K';refine S0 ?_;refine aE 8 rfl (fun h1_8=>?_) (fun h1_8=>?_)
 ·
  have F:=h1_8;iterate 3 refine SF ?_
  refine aV (g:=some (9,true)) rfl rfl fun K' hK'=>T6 ?_;refine C2 (aK9 r.c im) ?_;rintro u rfl;refine AX (hK' _ _ ?_);clear hK' K';iterate 2 refine SF ?_
  refine T2 (hK _ _ _ ?_);clear hK K;refine aF (RT Tryz.results71 ?_);exact aH [] (.bool _) rfl (by simp only[zD,h1_8,Bool.and_true,Bool.and_false,Bool.true_and,Bool.false_and])
 have F:=h1_8;iterate 6 refine SF ?_
 refine T2 (hK _ _ _ ?_);clear hK K;refine aF (RT Tryz.results71 ?_);exact aH [] (.bool _) rfl (by simp only[zD,h1_8,Bool.and_true,Bool.and_false,Bool.true_and,Bool.false_and])
def bE1 (l:List Pr)(p:Pr→Bool):Int:=match l.findIdx? p with|some i=>(i:Int)|none=> -1
variable {p:Pr→Bool}{l:List Pr}
theorem bP8 {i:Nat}(hi:i<l.length)(h:p l[i]=true)(h0: ∀j (hj:j<i),p (l[j]'(by omega))=false):bE1 l p=i:=by
 have:l.findIdx? p=some i:=by
  rw[List.findIdx?_eq_some_iff_getElem];exact⟨hi,h,fun j hj=>by rw[h0 j hj];simp⟩
 rw[bE1,this]
theorem bE2 (h0: ∀j (hj:j<l.length),p l[j]=false):bE1 l p= -1:=by
 have:l.findIdx? p=none:=by
  rw[List.findIdx?_eq_none_iff];intro r hr;obtain⟨j,hj,rfl⟩:=List.getElem_of_mem hr;exact h0 j hj
 rw[bE1,this]
theorem bX5 (l:List Pr)(g:FuncId)(caps:List CV)(p:Pr→Bool)(hl:l.length<2^40)(hp: ∀r∈l,bW Tryz.prog g (r.cv::caps) (fun v=>v= .bool (p r))):
  bG0 Tryz.prog 70 [.c (.slc (l.map Pr.cv)),.clo g (caps.map .c)] (fun v=>v= .int .i64 (bE1 l p)):=by
 refine bR Tryz.func70 rfl (by kernel_rfl) (aT6 (by simp[HV.menL,HV.men,HV.menL_c])) (Nat.le_of_ble_eq_true rfl) ?_;refine R0 ?_;refine aC fun K hK=>?_;refine R0 ?_;refine aL ?_;refine bD (α:={i:Nat//i≤l.length∧ ∀j (hj:j<i) (h:j<l.length),p l[j]=false}) (fun i=>(fin [(0,.c (.slc (l.map Pr.cv))),(1,.clo g (caps.map .c)),(7,.c (.int .i64 l.length)),(8,.c (.int .i64 i.1))],fob [])) 100 (fun i=>l.length-i.1) ⟨0,by omega,fun j hj=>by omega⟩ (aN (by omega) (by simp[aZ,fin_at,finA_at,upd_at,HV.men,HV.menL,HV.norm,HV.toC,HV.toCL,HV.menL_c]) (by simp[aY])) ?_;rintro⟨i,hi,h0⟩;refine R0 ?_;refine aC fun K hK=>?_;refine aJ (b:=decide ((i:Int)<l.length)) rfl (fun hb=>?_) (fun hb=>?_)
 ·
  have hlt:i<l.length:=by simpa using hb
  clear hb;refine aK ?_;refine T0 (hK _ _ _ ?_);clear hK K;refine aC fun K hK=>?_;refine aL ?_;refine R0 ?_;refine aC fun K hK=>Rg ?_;have F:=aI @Int.natCast_nonneg (aI @Int.ofNat_lt (aI hlt (nM hlt)));iterate 5 refine SF ?_
  refine HS rfl rfl fun K' hK'=>T6 ?_;refine nT (args:=l[i].cv::caps) (hp _ (List.getElem_mem hlt)) ⟨rfl,rfl,rfl,rfl⟩ ?_;rintro u rfl;refine AX (hK' _ _ ?_);clear hK' K';refine T2 (hK _ _ _ ?_);clear hK K;refine aJ (b:=p l[i]) rfl (fun hb=>?_) (fun hb=>?_)
  · refine R0 ?_;refine aF (RT Tryz.results70 ?_);exact aH [] (.int .i64 i) rfl (by rw[bP8 hlt hb fun j hj=>h0 j hj (by omega)])
  refine aK ?_;refine T0 (hK _ _ _ ?_);clear hK K;refine aM (by kernel_rfl) ?_;refine TQ (IntWalk.i64_in ((i:Int)+1) (by omega)) ?_;refine⟨⟨i+1,hlt,fun j hj h=>?_⟩,aN (by omega) (by simp[aZ,fin_at,finA_at,upd_at,HV.men,HV.menL,HV.norm,HV.toC,HV.toCL,HV.menL_c]) (by simp[aY]),?_⟩
  ·
   rcases Nat.lt_or_ge j i with h1|h1
   · exact h0 j h1 h
   obtain rfl:j=i:=by omega
   exact hb
  show l.length-(i+1)<l.length-i;omega
 refine bA (T3 ?_);clear hK K;refine AX (hK _ _ _ ?_);clear hK K;refine R0 ?_;refine aF (RT Tryz.results70 ?_);have hei:i=l.length:=by simp at hb;omega
 subst hei;exact aH [] (.int .i64 (-1)) rfl (by rw[bE2 fun j hj=>h0 j hj hj])
theorem bX6 (p:Po)(hp:PoSz p)(ns im:aG):bW Tryz.prog 39 [p.cv,.str ns,.str im] (fun v=>v= .int .i64 (bL4 p ns im)):=by
 refine FW Tryz.func39 ?_;refine aC fun K hK=>Rg ?_;iterate 4 refine S0 ?_
 refine T2 (hK _ _ _ ?_);clear hK K;refine aC fun K hK=>?_;refine aC fun K hK=>Rg ?_;refine S0 ?_;refine HS rfl rfl fun K' hK'=>T5 ?_;refine C1 (sD p hp) ?_;rintro u rfl;refine AX (hK' _ _ ?_);clear hK' K';refine S0 ?_;refine T2 (hK _ _ _ ?_);clear hK K;refine aJ (b:=!fC p) rfl (fun hb=>?_) (fun hb=>?_)
 · refine R0 ?_;refine aF (RT Tryz.results39 ?_);exact aH [] (.int .i64 (-1)) rfl (by rw[bL5 (by simpa using hb)])
 refine aK ?_;refine T0 (hK _ _ _ ?_);clear hK K;have hv:fC p=true:=by simpa using hb
 clear hb;refine yD 4 4 rfl rfl ?_;refine yD 5 8 rfl rfl ?_;refine aC fun K hK=>Rg ?_;have F:=aI @bR5 @upd_at;iterate 3 refine SF ?_
 refine HS rfl rfl fun K' hK'=>T6 ?_;refine aO5 (bX5 p.r 71 [.rp (.str ns),.rp (.str im)] (zD ns im) hp.r fun r _=>bX4 ns im r) (by simp[HV.menL,HV.men]) (fun m=>by simp[HV.renL,HV.ren]) ⟨rfl,rfl,rfl,rfl⟩ ?_;rintro u rfl;refine AX (hK' _ _ ?_);clear hK' K';refine SF ?_;refine T2 (hK _ _ _ ?_);clear hK K;refine aF (RT Tryz.results39 ?_);exact aH [] (.int .i64 (bE1 p.r (zD ns im))) rfl (by rw[bL4,if_pos hv];rfl)
theorem aE0 (n:Int):bW Tryz.prog 49 [.int .i64 n] (fun v=>v=(aK1 n).cv):=by
 refine FW Tryz.func49 ?_;refine R0 ?_;refine aC fun K hK=>Rg ?_;iterate 4 refine S0 ?_
 refine T2 (hK _ _ _ ?_);clear hK K;refine aF (RT Tryz.results49 ?_);exact aH [] (aK1 n).cv rfl rfl
theorem bP9 :PoSz awP:=⟨by decide,by decide,by decide,by decide⟩
theorem bQ0 : ∀n∈awT,n.q.t.length<2^63:=by decide
theorem bQ1 :xH awP=0:=by decide+kernel
theorem cC9 :(rW awP).length<2^40:=by decide+kernel
theorem bQ2 :lJ Tryz.prog 22 tabs [] (fun v=>v= .bool true):=by
 refine bR (args:=[]) Tryz.func22 rfl (by kernel_rfl) (fA tabs []) (Nat.le_of_ble_eq_true rfl) ?_;unfold eK;obtain⟨aw1,aw2,aw3⟩:=bB9 bQ1;refine R0 ?_;refine aC fun K hK=>bE (by kernel_rfl) ?_;simp only[sR,simprocAttr];refine SG0 ?_;refine bJ (g:=none) rfl rfl fun K' hK'=>T5 ?_;refine C1 (aE0 1) ?_;rintro u rfl;refine AX (hK' _ _ ?_);clear hK' K';refine bJ (g:=none) rfl rfl fun K' hK'=>T5 ?_;refine C1 (aE0 2) ?_;rintro u rfl;refine AX (hK' _ _ ?_);clear hK' K';refine bJ (g:=none) rfl rfl fun K' hK'=>T5 ?_;refine C1 (aE0 3) ?_;rintro u rfl;refine AX (hK' _ _ ?_);clear hK' K';refine cW (g:=none) 21 rfl rfl fun K' hK'=>?_;simp only[gX,kP,sH,↓sP,sA,tyS,simprocAttr];repeat refine AI ?_
 refine dN (by first|rfl|simp) ?_;try simp only[sH,↓sP,sA,tyS,simprocAttr]
 refine AX (hK' _ _ ?_);clear hK' K';refine SG0 ?_;refine T2 (hK _ _ _ ?_);clear hK K;refine aC fun K hK=>bE (by kernel_rfl) ?_;simp only[sR,simprocAttr];iterate 2 refine SG0 ?_
 refine cW (g:=none) 37 rfl rfl fun K' hK'=>?_;simp only[gX,kP,sH,↓sP,sA,tyS,simprocAttr];repeat refine AI ?_
 refine dN (by first|rfl|simp) ?_;try simp only[sH,↓sP,sA,tyS,simprocAttr]
 refine AX (hK' _ _ ?_);clear hK' K';iterate 3 refine SG0 ?_
 refine T2 (hK _ _ _ ?_);clear hK K;refine aC fun K hK=>Rg ?_;refine S0 ?_;refine HS rfl rfl fun K' hK'=>T5 ?_;refine tC (args:=[_]) 0 (aX0 awP bP9) rfl (by simp) ⟨rfl,rfl,rfl,rfl⟩ ?_;rintro u v ⟨rfl,rfl⟩;rw[bQ1];refine AX (hK' _ _ ?_);clear hK' K';iterate 5 refine S0 ?_
 refine T2 (hK _ _ _ ?_);clear hK K;refine aC fun K hK=>Rg ?_;have F:=@dW;refine SF ?_;refine HS rfl rfl fun K' hK'=>T6 ?_;refine aM4 (args:=[_]) 0 (bX2 (rW awP) cC9) rfl (by simp) ⟨rfl,rfl,rfl,rfl⟩ ?_;rintro u v x ⟨rfl,rfl,rfl⟩;rw[aw1,aw2,aw3];refine AX (hK' _ _ ?_);clear hK' K';iterate 8 refine SF ?_
 refine T2 (hK _ _ _ ?_);clear hK K;refine aC fun K hK=>bE (by kernel_rfl) ?_;simp only[sR,simprocAttr];have F:=aI @List.length_map.{0,0} (aI @kU (aI @qK (show awP.r.length=1 from rfl)));refine SGF ?_;refine bJ (g:=none) rfl rfl fun K' hK'=>T6 ?_;refine C1 (qR awT bQ0) ?_;rintro u rfl;rw[cB7];refine AX (hK' _ _ ?_);clear hK' K';iterate 2 refine SGF ?_
 refine bJ (g:=some (30,true)) rfl rfl fun K' hK'=>T6 ?_;refine C1 (sD awP bP9) ?_;rintro u rfl;rw[cB8];refine AX (hK' _ _ ?_);clear hK' K';iterate 17 refine SGF ?_
 refine cW (g:=some (48,true)) 209 rfl rfl fun K' hK'=>?_;simp only[gX,kP,sH,↓sP,sA,tyS,simprocAttr,List.length_map,kU,qK,(show awP.r.length=1 from rfl)];repeat refine AI ?_
 refine dN (by first|rfl|simp) ?_;try simp only[sH,↓sP,sA,tyS,simprocAttr,List.length_map,kU,qK,(show awP.r.length=1 from rfl)]
 refine AX (hK' _ _ ?_);clear hK' K';refine bJ (g:=some (48,true)) rfl rfl fun K' hK'=>T6 ?_;refine C2 (aD9 awT bQ0 [true,false,true] (by decide)) ?_;rintro u rfl;rw[bL6];refine AX (hK' _ _ ?_);clear hK' K';iterate 3 refine SGF ?_
 refine cW (g:=some (53,true)) 229 rfl rfl fun K' hK'=>?_;simp only[gX,kP,sH,↓sP,sA,tyS,simprocAttr,List.length_map,kU,qK,(show awP.r.length=1 from rfl)];repeat refine AI ?_
 refine dN (by first|rfl|simp) ?_;try simp only[sH,↓sP,sA,tyS,simprocAttr,List.length_map,kU,qK,(show awP.r.length=1 from rfl)]
 refine AX (hK' _ _ ?_);clear hK' K';refine bJ (g:=some (53,true)) rfl rfl fun K' hK'=>T6 ?_;refine C2 (aD9 awT bQ0 [true] (by decide)) ?_;rintro u rfl;rw[bL7];refine AX (hK' _ _ ?_);clear hK' K';iterate 4 refine SGF ?_
 refine bJ (g:=some (59,true)) rfl rfl fun K' hK'=>T6 ?_;refine C3 (bX6 awP bP9 [112,114,111,100,47,101,117] [119,101,98]) ?_;rintro u rfl;rw[cB9];refine AX (hK' _ _ ?_);clear hK' K';iterate 4 refine SGF ?_
 refine bJ (g:=some (64,true)) rfl rfl fun K' hK'=>T6 ?_;refine C1 (rZ awT bQ0) ?_;rintro u rfl;refine AX (hK' _ _ ?_);clear hK' K';iterate 5 refine SGF ?_
 refine bJ (g:=some (70,true)) rfl rfl fun K' hK'=>T6 ?_;refine C2 (tI awT bQ0 0) ?_;rintro u rfl;refine AX (hK' _ _ ?_);clear hK' K';iterate 4 refine SGF ?_
 refine T2 (hK _ _ _ ?_);clear hK K;refine aF (RT Tryz.results22 ?_);exact dQ [] (.bool true) rfl rfl (by simp) rfl
theorem aS3 (l:List Nd)(i:Int)(h:l.length<2^40):(lN l i).length<2^40:=by
 by_cases hc:cT l=true∧0≤i∧i<l.length
 ·
  obtain⟨h1,h2,h3⟩:=hc;obtain⟨j,rfl⟩: ∃j:Nat,i=j:=⟨i.toNat,by omega⟩;have hj:j<l.length:=by omega
  rw[rY h1 hj,nZ];have:=(cI ((fK h1).node _ (List.getElem_mem hj))).2.1;omega
 unfold lN;rw[if_neg hc];simp
theorem aM6 (l:List Nd)(h:l.length<2^40):(gI l).length<2^40:=by
 cases hc:cT l with
 |false=>rw[jY hc];simp
 |true=>
  rw[jJ hc,gQ];have:=(fK hc).lv;omega
def aB :Nat→Nat
 |0=>4
 |d+1=>8+3*aB d
theorem aM7 : ∀d,d≤3→aB d≤400:=by decide
theorem bZ3 : ∀d,d≤3→4≤aB d:=by decide
theorem cD0 {d:Nat}(hd:d≤3){p:Nat×Nat}(h:p∈pos d n):p.1≤60:=by
 rcases Nat.lt_or_ge n 9 with hn|hn
 ·
  have key: ∀d,d<4→ ∀n,n<9→ ∀p∈pos d n,p.1≤60:=by decide+kernel
  exact key d (by omega) n hn p h
 cases d with
 |zero=>simp[pos]at h;subst h;simp
 |succ d=>
  rw[pos,oB,if_neg (by omega)]at h;simp at h;subst h;simp
theorem aM8 {d:Nat}{t:List Nd}(h:Made d n t)(hd:d≤3):t.length≤60:=cD0 hd h.pos
theorem aM9 {ob:Ob}{L:List Int}{a d m a':Nat}{T t:List Nd}{X:List CV}(h0:ob 0=some (.box 83 (.c (tp L a'))))(h1:ob 1=some (.row 40 7 X))(hm:m=(T++t).length)(hX:X=(T++t).map Nd.cv)(hM:Made d T.length t)(ha:a'≤a+aB d):
  lT 2 (.own 1 m) ob (fun r ob'=> ∃os',ob'=lst os'∧(2≤os'.length∧os'.length≤2+4)∧ ∃(t:List Nd) (a':Nat),r= .own 1 (T++t).length∧os'=[.box 83 (.c (tp L a')),.row 40 7 ((T++t).map Nd.cv)]∧Made d T.length t∧a'≤a+aB d):=by
 subst hm hX;exact eA [] [] (.own 1 (T++t).length) [.box 83 (.c (tp L a')),.row 40 7 ((T++t).map Nd.cv)] rfl (by simp[HV.men]) ⟨⟨by simp[HO.men,HV.men],by simp,_,h0,by simp[HO.close,HV.close,HO.ren,HV.ren,HV.norm,fL,HV.toC,tp,CV.denil,CV.denilL,denilL_int]⟩,⟨by simp[HO.men],by simp,_,h1,rfl⟩,trivial⟩ rfl List.nodup_nil (by simp) (by simp) ⟨t,a',rfl,rfl,hM,ha⟩
theorem bQ3 (n:Nat)(ob:Ob)(e:TypeId)(sz:Nat)(v:CV)(L:List CV)(t:TypeId):jD (sub [0,1] n) ob 0 [.box t (.c v),.row e sz L]=upd (upd ob 0 (some (.box t (.c v)))) 1 (some (.row e sz L)):=rfl
theorem bX7 (n m:Nat):HV.ren (sub [0,1] n) (.own 1 m)= .own 1 m:=rfl
theorem cH7 (L:List Int)(a:Nat)(T:List Nd):lst [.box 83 (.c (tp L a)),.row 40 7 (T.map Nd.cv)]=fob [(0,.box 83 (.c (tp L a))),(1,.row 40 7 (T.map Nd.cv))]:=by
 funext i
 match i with
 |0=>rfl
 |1=>rfl
 |i+2=>simp[lst,fob,upd]
abbrev cK2 (L:List Int)(a d:Nat)(T:List Nd)(r:HV)(os':List HO):Prop:=
 ∃(t:List Nd) (a':Nat),r= .own 1 (T++t).length∧os'=[.box 83 (.c (tp L a')),.row 40 7 ((T++t).map Nd.cv)]∧Made d T.length t∧a'≤a+aB d
theorem cD1 (d:Nat): ∀(L:List Int) (a:Nat) (T:List Nd),d≤3→a+aB d<2^38→0<T.length→T.length<2^38→
  HGe Tryz.prog 50 [.ptr 0 0,.own 1 T.length,.c (.int .i64 d)] [.box 83 (.c (tp L a)),.row 40 7 (T.map Nd.cv)] (cK2 L a d T):=by
 induction d using Nat.strongRecOn with
 |ind d ih=>?_
 intro L a T hd ha hT0 hTl;refine bR (args:=[.ptr 0 0,.own 1 T.length,.c (.int .i64 d)]) Tryz.func50 rfl (by kernel_rfl) (eV rfl (by simp[eE,HO.men,HV.men,HV.menL]) (by simp[HV.menL,HV.men])) (Nat.le_of_ble_eq_true rfl) ?_;show Hw _ _ 2 _ _ _ (lst _) 2;rw[cH7];have hab:=aM7 d hd;have hw1: ∀x:Int,0≤x→x<100→IntKind.i64.wrap (1+x)=1+x:=fun x h1 h2=>IntWalk.i64_in _ (by omega);have hw2: ∀x:Int,0≤x→x<100→IntKind.i64.wrap (2+x)=2+x:=fun x h1 h2=>IntWalk.i64_in _ (by omega);refine R0 ?_;refine aC fun K hK=>?_;refine aC fun K hK=>?_;have key: ∀(b:Bool) (a1:Nat) fr ob nx,(b=false→0<d∧T.length≤8)→a1≤a+1→Fits 2 fr ob (fin [(0,.ptr 0 0),(1,.own 1 T.length),(2,.c (.int .i64 d)),(20,.c (.bool b))]) (fob [(0,.box 83 (.c (tp L a1))),(1,.row 40 7 (T.map Nd.cv))]) 200→K fr ob nx:=by
  rintro b a1 fr ob nx hbf ha1 hf;refine hK _ _ _ (bK hf ?_);clear hf hK K;refine aJ (b:=b) rfl (fun hb=>?_) (fun hb=>?_)
  ·
   clear hbf;refine aC fun K hK=>Rg ?_;iterate 2 refine S0 ?_
   refine HS rfl rfl fun K' hK'=>T5 ?_;refine bV (args:=[]) (aW4 L a1 (by omega)) rfl (by simp) ⟨rfl,rfl,rfl,rfl⟩ ?_;rintro u v' ⟨q,a2,rfl,rfl,s1,s2⟩;refine AX (hK' _ _ ?_);clear hK' K';iterate 4 refine S0 ?_
   refine T2 (hK _ _ _ ?_);clear hK K;refine aF (RT Tryz.results50 ?_);have:=bZ3 d hd;exact aM9 (t:=[⟨1,0,0,q⟩]) rfl rfl (by simp) (by simp) (zC s2) (by omega)
  obtain⟨hd0,hT8⟩:=hbf hb;clear hbf hb;refine aK ?_;refine T0 (hK _ _ _ ?_);clear hK K;refine aC fun K hK=>Rg ?_;refine S0 ?_;refine HS rfl rfl fun K' hK'=>T5 ?_;refine bV (args:=[_]) (eJ L a1 3 (by omega) (by omega)) rfl (by simp) ⟨rfl,rfl,rfl,rfl⟩ ?_;rintro u v' ⟨x,a2,rfl,rfl,h1,h2,h3,h4⟩;refine AX (hK' _ _ ?_);clear hK' K';iterate 2 refine S0 ?_
  refine HS rfl rfl fun K' hK'=>T5 ?_;refine bV (args:=[_]) (eJ L a2 3 (by omega) (by omega)) rfl (by simp) ⟨rfl,rfl,rfl,rfl⟩ ?_;rintro u v' ⟨y,a3,rfl,rfl,g1,g2,g3,g4⟩;refine AX (hK' _ _ ?_);clear hK' K';iterate 4 refine S0 ?_
  refine T2 (hK _ _ _ ?_);clear hK K;refine aC fun K hK=>?_;have key2: ∀(k c N:Int) (a4:Nat) fr ob nx,(1≤c∧c≤3)→k≠1→bL ⟨k,N,c,rq0⟩=true→a4≤a+4→Fits 2 fr ob (fin [(0,.ptr 0 0),(1,.own 1 T.length),(2,.c (.int .i64 d)),(7,.ptr 228 0)]) (fob [(0,.box 83 (.c (tp L a4))),(1,.row 40 7 (T.map Nd.cv)),(228,.box 40 (.c (Nd.cv ⟨k,N,c,rq0⟩)))]) 700→K fr ob nx:=by
   rintro k c N a4 fr ob nx ⟨hc1,hc3⟩ hk1 hnode ha4 hf;refine hK _ _ _ (bK hf ?_);clear hf hK K;refine aC fun K hK=>Rg ?_;iterate 5 refine S0 ?_
   refine T2 (hK _ _ _ ?_);clear hK K;refine aC fun K hK=>?_;refine R0 ?_;refine aL ?_;refine bD (α:={w:List Nd×Nat×Nat//MadeK (d-1) T.length w.2.1 w.1∧w.2.2≤a+4+w.2.1*aB (d-1)∧(w.2.1:Int)≤c∧w.1.length≤60*w.2.1}) (fun w=>(fin [(0,.ptr 0 0),(1,.own 1 (T.length+1+w.1.1.length)),(2,.c (.int .i64 d)),(7,.ptr 228 0),(8,.c (.int .i64 w.1.2.1))],fob [(0,.box 83 (.c (tp L w.1.2.2))),(1,.row 40 7 ((T++⟨k,N,c,rq0⟩::w.1.1).map Nd.cv)),(228,.box 40 (.c (Nd.cv ⟨k,N,c,rq0⟩)))])) 2000 (fun w=>10-w.1.2.1) ⟨([],0,a4),MadeK.zero _ _,by simp only;omega,by simp only;omega,by simp⟩ (fF) ?_;rintro⟨⟨ts,j,a5⟩,i1,i2,i3,i4⟩;simp only at i1 i2 i3 i4;refine aC fun K hK=>?_;refine aC fun K hK=>Rg ?_;iterate 4 refine S0 ?_
   refine T2 (hK _ _ _ ?_);clear hK K;refine aJ (b:=decide ((j:Int)<c)) rfl (fun hb=>?_) (fun hb=>?_)
   ·
    have hjc:(j:Int)<c:=by simpa using hb
    clear hb;obtain⟨M,hM⟩: ∃M,M=T++⟨k,N,c,rq0⟩::ts:=⟨_,rfl⟩;have hMl:T.length+1+ts.length=M.length:=by rw[hM];simp;omega
    rw[←hM,hMl];have hwd:IntKind.i64.wrap ((d:Int)-1)=((d-1:Nat):Int):=by rw[IntWalk.i64_in _ (by omega)];omega
    have hab1:=aM7 (d-1) (by omega);have hj3:j≤2:=by omega
    have hja:j*aB (d-1)≤2*aB (d-1):=Nat.mul_le_mul_right _ hj3;have hdd:aB d=8+3*aB (d-1):=by
     obtain⟨e,rfl⟩: ∃e,d=e+1:=⟨d-1,by omega⟩;rfl
    refine aK ?_;refine T0 (hK _ _ _ ?_);clear hK K;refine aC fun K hK=>?_;refine aL ?_;refine Rg ?_;have F:=hwd;iterate 4 refine SF ?_
    refine HS rfl rfl fun K' hK'=>T6 ?_;refine fQ [0,1] (ih (d-1) (by omega) L a5 M (by omega) (by omega) (by omega) (by omega)) rfl ⟨rfl,rfl,trivial⟩ (by simp) (by simp) ⟨rfl,rfl,rfl,rfl⟩ (by simp[eE,HO.men,HV.men,HV.menL]) (by simp[HV.menL,HV.men]) ?_;rintro r os' ⟨t,a6,rfl,rfl,ht,ha6⟩;rw[bQ3,bX7];refine AX (hK' _ _ ?_);clear hK' K';refine SF ?_;refine T2 (hK _ _ _ ?_);clear hK K;refine aM (by kernel_rfl) ?_;refine TQ (IntWalk.i64_in ((j:Int)+1) (by omega)) ?_;have htl:=aM8 ht (by omega);have hnx:=i1.next (t:=t) (by rw[hMl];exact ht);refine⟨⟨(ts++t,j+1,a6),hnx,by simp only[Nat.add_mul,Nat.one_mul];omega,by simp only;omega,by simp only[List.length_append];omega⟩,?_,?_⟩
    ·
     have e1:M++t=T++⟨k,N,c,rq0⟩::(ts++t):=by rw[hM];simp
     have e2:(M++t).length=T.length+1+(ts++t).length:=by rw[e1];simp;omega
     simp only[];rw[←e1,←e2];exact fF
    show 10-(j+1)<10-j;omega
   have hjc:(j:Int)=c:=by simp at hb;omega
   have hj3:j≤3:=by omega
   have hja:j*aB (d-1)≤3*aB (d-1):=Nat.mul_le_mul_right _ hj3;obtain⟨d',rfl⟩: ∃d',d=d'+1:=⟨d-1,by omega⟩;simp only[Nat.add_sub_cancel]at i1 i2 hja;have hm:=i1.fin (x:=⟨k,N,c,rq0⟩) hT8 hnode hk1 hjc.symm (by omega) (by omega);refine bA (T3 ?_);clear hK K;refine AX (hK _ _ _ ?_);clear hK K;refine R0 ?_;refine aF (RT Tryz.results50 ?_);exact aM9 (t:=⟨k,N,c,rq0⟩::ts) rfl rfl (by simp;omega) rfl hm (by simp only[aB];omega)
  have hx3:=h4 (by omega);have hy3:=g4 (by omega);obtain⟨k,hk⟩: ∃k,k=IntKind.i64.wrap (2+x):=⟨_,rfl⟩;obtain⟨c,hc⟩: ∃c,c=IntKind.i64.wrap (1+y):=⟨_,rfl⟩;have hkx:k=2+x:=by rw[hk,hw2 x h2 (by omega)]
  have hcy:c=1+y:=by rw[hc,hw1 y g2 (by omega)]
  rw[←hk,←hc];clear hk hc h3 h4 g3 g4;refine R0 ?_;refine aJ (b:=_) rfl (fun hb=>?_) (fun hb=>?_)
  ·
   refine Rg ?_;iterate 3 refine S0 ?_
   refine HS rfl rfl fun K' hK'=>T5 ?_;refine bV (args:=[_]) (eJ L a3 c (by omega) (by omega)) rfl (by simp) ⟨rfl,rfl,rfl,rfl⟩ ?_;rintro u v' ⟨z,a4,rfl,rfl,f1,f2,f3,f4⟩;refine AX (hK' _ _ ?_);clear hK' K';iterate 3 refine S0 ?_
   refine T4 ?_;have f5:=f4 (by omega);have hk4:k=4:=by simpa using hb
   exact key2 k c (IntKind.i64.wrap (1+z)) a4 _ _ _ ⟨by omega,by omega⟩ (by omega) (by rw[hw1 z f2 (by omega),bL,if_neg (by simp only;omega),if_neg (by simp only;omega),if_pos hk4];simp[inB,eU];omega) (by omega) (aN (by omega) (by simp[aZ,fin_at,finA_at,upd_at,HV.men,HV.menL,HV.norm,HV.toC,HV.toCL,Nd.cv,rq0]) (by simp[aY,fob_at,upd_at,none0_at,bU,HO.men,HV.men,HV.menL,HV.norm,HV.toC,HV.toCL,Nd.cv,rq0]))
  refine aK (T3 ?_);have hk4: ¬k=4:=by simpa using hb
  exact key2 k c 0 a3 _ _ _ ⟨by omega,by omega⟩ (by omega) (by rw[bL,if_neg (by simp only;omega),if_pos (by simp only;omega)];simp[inB,eU];omega) (by omega) (aN (by omega) (by simp[aZ,fin_at,finA_at,upd_at,HV.men,HV.menL,HV.norm,HV.toC,HV.toCL,Nd.cv,rq0]) (by simp[aY,fob_at,upd_at,none0_at,bU,HO.men,HV.men,HV.menL,HV.norm,HV.toC,HV.toCL,Nd.cv,rq0]))
 refine Rg ?_;iterate 3 refine S0 ?_
 refine aE 10 rfl (fun h1_10=>?_) (fun h1_10=>?_)
 ·
  have F:=h1_10;iterate 9 refine SF ?_
  refine T4 ?_;exact key true a _ _ _ (fun h=>by cases h) (by omega) (fF)
 have F:=h1_10;refine SF ?_;refine aV (g:=some (11,false)) rfl rfl fun K' hK'=>T6 ?_;refine bV (args:=[_]) (eJ L a 3 (by omega) (by omega)) rfl (by simp) ⟨rfl,rfl,rfl,rfl⟩ ?_;rintro u v' ⟨x,a1,rfl,rfl,h1,h2,h3,h4⟩;refine AX (hK' _ _ ?_);clear hK' K';iterate 3 refine SF ?_
 refine aE 14 rfl (fun h1_14=>?_) (fun h1_14=>?_)
 ·
  have F:=aI h1_10 h1_14;iterate 4 refine SF ?_
  refine T4 ?_;exact key true a1 _ _ _ (fun h=>by cases h) h1 (fF)
 have F:=aI h1_10 h1_14;iterate 4 refine SF ?_
 refine aE 19 rfl (fun h1_19=>?_) (fun h1_19=>?_)
 · simp only[h1_19];refine T4 ?_;exact key true a1 _ _ _ (fun h=>by cases h) h1 (fF)
 simp only[h1_19];refine T4 ?_;exact key false a1 _ _ _ (fun _=>⟨by simp at h1_10;omega,by simp at h1_19;omega⟩) h1 (fF)
end Go.Proofs.YtlldglbooaefhaaGreatDoor
