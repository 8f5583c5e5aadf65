/- Part of a proof: walks of functions of the program, by contracts, and the rules they use. By an AI agent. -/
import Derived.Test.YtlldglbooaefhaaGreatDoorHzU1
import Derived.Test.YtlldglbooaefhaaGreatDoorHzTn
import Derived.Test.YtlldglbooaefhaaGreatDoorHlTlaw
import Derived.Test.YtlldglbooaefhaaGreatDoorPl28q
import Derived.Shelf.LaysM
import Derived.Shelf.Strconv.Itoa4
import Derived.Test.YtlldglbooaefhaaGreatDoorHlZb
import Derived.Test.YtlldglbooaefhaaGreatDoorPl11w
set_option linter.unusedSimpArgs false
set_option linter.unusedVariables false
set_option linter.defProp false
namespace Go.Proofs.YtlldglbooaefhaaGreatDoor
open Go Go.Hl Go.Pl
set_option maxRecDepth 10000
set_option maxHeartbeats 16000000
variable {x:Int}{a nid:Nat}{ls:List (List aF)}{K:HV→Ob→Prop}{ob:Ob}{av:List Nat}
theorem iP (w:aF){id idh ix:Nat}(hl:ls.length<2^40)(h1:ob id=some (.box 94 (.c (rdr ls a))))(h2:ob idh=some (.hrow 176 1 [.ptr ix 0]))(h3:ob ix=some (.box 2 (.c (.int .i64 x))))
  (hn:[id,idh,ix].Nodup) (hav: ∀s∈[id,idh,ix],s∉av) (hfree:Free4 ob nid)
  (hK:K (.c (.bool (gM ls a w).isSome)) (upd (upd (upd ob id (some (.box 94 (.c (rdr ls (if(gM ls a w).isSome then a+1 else a)))))) idh (some (.hrow 176 1 [.ptr ix 0]))) ix (some (.box 2 (.c (.int .i64 ((gM ls a w).getD x))))))):
  HCall Tryz.prog av 130 [.ptr id 0,.c (.str w),.own idh 1] ob nid K:=by
 refine fP [id,idh,ix] (bY6 ls a w x hl) rfl ⟨h1,h2,h3,trivial⟩ hn hav hfree (by simp[eU,HO.men,HV.men,HV.menL]) (by simp[HV.menL,HV.men]) ?_;rintro r os' ⟨rfl,rfl⟩;exact hK
theorem aZ3 (w:aF){y:Int}{id idh ix iy:Nat}(hl:ls.length<2^40)(h1:ob id=some (.box 94 (.c (rdr ls a))))(h2:ob idh=some (.hrow 176 1 [.ptr ix 0,.ptr iy 0]))(h3:ob ix=some (.box 2 (.c (.int .i64 x))))(h4:ob iy=some (.box 2 (.c (.int .i64 y))))
  (hn:[id,idh,ix,iy].Nodup) (hav: ∀s∈[id,idh,ix,iy],s∉av) (hfree:Free4 ob nid)
  (hK: ∀x' y',(∀n m,mX ls a w=some (n,m)→x'=n∧y'=m)→K (.c (.bool (mX ls a w).isSome)) (upd (upd (upd (upd ob id (some (.box 94 (.c (rdr ls (if(mX ls a w).isSome then a+1 else a)))))) idh (some (.hrow 176 1 [.ptr ix 0,.ptr iy 0]))) ix (some (.box 2 (.c (.int .i64 x'))))) iy (some (.box 2 (.c (.int .i64 y')))))):
  HCall Tryz.prog av 130 [.ptr id 0,.c (.str w),.own idh 2] ob nid K:=by
 refine fP [id,idh,ix,iy] (bY7 ls a w x y hl) rfl ⟨h1,h2,h3,h4,trivial⟩ hn hav hfree (by simp[eU,HO.men,HV.men,HV.menL]) (by simp[HV.menL,HV.men]) ?_;rintro r os' ⟨rfl,x',y',rfl,h⟩;exact hK x' y' h
theorem aT3 (ls:List (List aF))(a:Nat)(ha:ls.length<2^40):uL Tryz.prog 128 94 (rdr ls a) [] (fun u x v'=>u=((kL ls a).getD rq0).cv∧x= .bool (kL ls a).isSome∧v'=rdr ls (if(kL ls a).isSome then a+1 else a)):=by
 refine cI Tryz.func128 rfl (by kernel_rfl) (eI _ _ _) (Nat.le_of_ble_eq_true rfl) ?_;refine R0 ?_;refine R0 ?_;refine aB fun K hK=>?_;refine aN ?_;refine aB fun K hK=>bX (by kernel_rfl) ?_;simp only[sR,simprocAttr];refine SG0 ?_;refine cE (g:=none) rfl rfl fun K' hK'=>?_;simp only[sN,↓hopH.eq_def,sH,↓sP,sA,tyS,simprocAttr];refine AX (hK' _ _ ?_);clear hK' K';refine bZ (g:=none) rfl rfl fun K' hK'=>T5 ?_;refine iP bM ha rfl rfl rfl (by decide) (by simp) ⟨rfl,rfl,rfl,rfl⟩ ?_;refine AX (hK' _ _ ?_);clear hK' K';refine SG0 ?_;refine T2 (hK _ _ _ ?_);clear hK K;refine aG (b:=(gM ls a bM).isSome) rfl (fun hb=>?_) (fun hb=>?_)
 ·
  obtain⟨n,hn⟩:=Option.isSome_iff_exists.1 hb;obtain⟨hl,hl1,hl2,hl3⟩:=jS hn;have hreq:kL ls a=some ⟨1,n,0,[]⟩:=by rw[gO hl,yV hl1 hl2,hl3];rfl
  simp only[hn,Option.isSome_some,if_true,Option.getD_some];refine aB fun K hK=>Rg ?_;iterate 4 refine S0 ?_
  refine T2 (hK _ _ _ ?_);clear hK K;refine aE (RT Tryz.results128 ?_);rw[hreq];exact cH [] (Rq.cv ⟨1,n,0,[]⟩) (.bool true) (rdr ls (a+1)) rfl rfl (by simp[HV.close,HV.closeL,rdr,CV.denil,CV.denilL,aT,HV.norm,HV.toC,HV.toCL]) (by simp) ⟨rfl,rfl,rfl⟩
 have hwReleased:gM ls a bM=none:=by simpa using hb
 simp only[hwReleased,Option.isSome_none,Bool.false_eq_true,if_false,Option.getD_none];clear hb;refine aB fun K hK=>Rg ?_;refine S0 ?_;refine HS rfl rfl fun K' hK'=>T5 ?_;refine dG (args:=[_,_]) (aD7 ls a 2 bJ (by omega)) rfl (by simp) ⟨rfl,rfl,rfl,rfl⟩ ?_;rintro u v' ⟨rfl,rfl⟩;refine AX (hK' _ _ ?_);clear hK' K';refine S0 ?_;refine T2 (hK _ _ _ ?_);clear hK K;refine aG (b:=isV ls a bJ 2) rfl (fun hb=>?_) (fun hb=>?_)
 ·
  obtain⟨hl,hl1,hl2⟩:=gN hb;have hreq:kL ls a=some ⟨2,0,0,wd ls[a] 1⟩:=by rw[gO hl,aH8 hl1 hl2]
  have hw:IntKind.i64.wrap ((a:Int)+1)=((a+1:Nat):Int):=IntWalk.i64_in _ (by omega);have hw2:IntKind.i64.wrap (((a+1:Nat):Int)-1)=(a:Int):=by rw[IntWalk.i64_in _ (by omega)];omega
  have h1:1<ls[a].length:=by omega
  refine aB fun K hK=>Rg ?_;iterate 8 refine S0 ?_ (e:=fun _ h_=>by simp only[sH,↓sP,sA,tyS,simprocAttr,rdr,hw];exact AX h_)
  refine T2 (hK _ _ _ ?_);clear hK K;refine aB fun K hK=>DW [(0,[],[]),(1,[],[]),(2,[],[]),(3,[],[]),(4,[],[]),(5,[],[]),(6,[],[]),(7,[],[]),(8,[],[]),(9,[],[]),(10,[],[]),(11,[],[]),(12,[],[]),(13,[],[]),(14,[],[]),(15,[],[])] [0,1,3,7,0,16,48,112,240,511,1023,2047,4095,8191,16383,32767] ?_;iterate 16 refine W0 ?_ (e:=fun _ h_=>by simp only[sH,↓sP,sA,tyS,simprocAttr,rdr,hw2,Int.natCast_nonneg,Int.ofNat_lt,hl,bR hl,lsC,cF h1,Int.one_nonneg,hl1];exact AX h_)
  refine T2 (hK _ _ _ ?_);clear hK K;refine aE (RT Tryz.results128 ?_);rw[hreq];exact cH [] (Rq.cv ⟨2,0,0,wd ls[a] 1⟩) (.bool true) (rdr ls (a+1)) rfl rfl (by simp[HV.close,HV.closeL,rdr,CV.denil,CV.denilL,aT,HV.norm,HV.toC,HV.toCL]) (by simp) ⟨rfl,rfl,rfl⟩
 have hChained:isV ls a bJ 2=false:=hb;clear hb;refine aB fun K hK=>bX (by kernel_rfl) ?_;simp only[sR,simprocAttr];refine SG0 ?_;refine cE (g:=none) rfl rfl fun K' hK'=>?_;simp only[sN,↓hopH.eq_def,sH,↓sP,sA,tyS,simprocAttr];refine AX (hK' _ _ ?_);clear hK' K';refine bZ (g:=none) rfl rfl fun K' hK'=>T5 ?_;refine iP bO ha rfl rfl rfl (by decide) (by simp) ⟨rfl,rfl,rfl,rfl⟩ ?_;refine AX (hK' _ _ ?_);clear hK' K';refine SG0 ?_;refine T2 (hK _ _ _ ?_);clear hK K;refine aG (b:=(gM ls a bO).isSome) rfl (fun hb=>?_) (fun hb=>?_)
 ·
  obtain⟨n,hn⟩:=Option.isSome_iff_exists.1 hb;obtain⟨hl,hl1,hl2,hl3⟩:=jS hn;have hreq:kL ls a=some ⟨3,n,0,[]⟩:=by rw[gO hl,yW hl1 hl2,hl3];rfl
  simp only[hn,Option.isSome_some,if_true,Option.getD_some];refine aB fun K hK=>Rg ?_;iterate 4 refine S0 ?_
  refine T2 (hK _ _ _ ?_);clear hK K;refine aE (RT Tryz.results128 ?_);rw[hreq];exact cH [] (Rq.cv ⟨3,n,0,[]⟩) (.bool true) (rdr ls (a+1)) rfl rfl (by simp[HV.close,HV.closeL,rdr,CV.denil,CV.denilL,aT,HV.norm,HV.toC,HV.toCL]) (by simp) ⟨rfl,rfl,rfl⟩
 have hwApproved:gM ls a bO=none:=by simpa using hb
 simp only[hwApproved,Option.isSome_none,Bool.false_eq_true,if_false,Option.getD_none];clear hb;refine aB fun K hK=>bX (by kernel_rfl) ?_;simp only[sR,simprocAttr];refine SG0 ?_;refine cE (g:=none) rfl rfl fun K' hK'=>?_;simp only[sN,↓hopH.eq_def,sH,↓sP,sA,tyS,simprocAttr];refine AX (hK' _ _ ?_);clear hK' K';refine bZ (g:=none) rfl rfl fun K' hK'=>T5 ?_;refine aZ3 bT ha rfl rfl rfl rfl (by decide) (by simp) ⟨rfl,rfl,rfl,rfl⟩ ?_;intro x1 y1 hxy;refine AX (hK' _ _ ?_);clear hK' K';refine SG0 ?_;refine T2 (hK _ _ _ ?_);clear hK K;refine aG (b:=(mX ls a bT).isSome) rfl (fun hb=>?_) (fun hb=>?_)
 ·
  obtain⟨⟨n,m⟩,hn⟩:=Option.isSome_iff_exists.1 hb;obtain⟨hl,hl1,hl2,hl3,hl4⟩:=bK9 hn;obtain⟨rfl,rfl⟩:=hxy _ _ hn;have hreq:kL ls a=some ⟨4,x1,y1,[]⟩:=by rw[gO hl,aH9 hl1 hl2,hl3,hl4]
  simp only[hn,Option.isSome_some,if_true];refine aB fun K hK=>Rg ?_;iterate 5 refine S0 ?_
  refine T2 (hK _ _ _ ?_);clear hK K;refine aE (RT Tryz.results128 ?_);rw[hreq];exact cH [] (Rq.cv ⟨4,x1,y1,[]⟩) (.bool true) (rdr ls (a+1)) rfl rfl (by simp[HV.close,HV.closeL,rdr,CV.denil,CV.denilL,aT,HV.norm,HV.toC,HV.toCL]) (by simp) ⟨rfl,rfl,rfl⟩
 have hRebuilt:mX ls a bT=none:=by simpa using hb
 simp only[hRebuilt,Option.isSome_none,Bool.false_eq_true,if_false];clear hb;refine aB fun K hK=>bX (by kernel_rfl) ?_;simp only[sR,simprocAttr];refine SG0 ?_;refine cE (g:=none) rfl rfl fun K' hK'=>?_;simp only[sN,↓hopH.eq_def,sH,↓sP,sA,tyS,simprocAttr];refine AX (hK' _ _ ?_);clear hK' K';refine bZ (g:=none) rfl rfl fun K' hK'=>T5 ?_;refine iP cC ha rfl rfl rfl (by decide) (by simp) ⟨rfl,rfl,rfl,rfl⟩ ?_;refine AX (hK' _ _ ?_);clear hK' K';refine SG0 ?_;refine T2 (hK _ _ _ ?_);clear hK K;refine aG (b:=(gM ls a cC).isSome) rfl (fun hb=>?_) (fun hb=>?_)
 ·
  obtain⟨n,hn⟩:=Option.isSome_iff_exists.1 hb;obtain⟨hl,hl1,hl2,hl3⟩:=jS hn;have hreq:kL ls a=some ⟨5,n,0,[]⟩:=by rw[gO hl,aR7 hl1 hl2,hl3];rfl
  simp only[hn,Option.isSome_some,if_true,Option.getD_some];refine aB fun K hK=>Rg ?_;iterate 4 refine S0 ?_
  refine T2 (hK _ _ _ ?_);clear hK K;refine aE (RT Tryz.results128 ?_);rw[hreq];exact cH [] (Rq.cv ⟨5,n,0,[]⟩) (.bool true) (rdr ls (a+1)) rfl rfl (by simp[HV.close,HV.closeL,rdr,CV.denil,CV.denilL,aT,HV.norm,HV.toC,HV.toCL]) (by simp) ⟨rfl,rfl,rfl⟩
 have hwListed:gM ls a cC=none:=by simpa using hb
 simp only[hwListed,Option.isSome_none,Bool.false_eq_true,if_false,Option.getD_none];clear hb;refine aB fun K hK=>bX (by kernel_rfl) ?_;simp only[sR,simprocAttr];refine SG0 ?_;refine cE (g:=none) rfl rfl fun K' hK'=>?_;simp only[sN,↓hopH.eq_def,sH,↓sP,sA,tyS,simprocAttr];refine AX (hK' _ _ ?_);clear hK' K';refine bZ (g:=none) rfl rfl fun K' hK'=>T5 ?_;refine iP cO ha rfl rfl rfl (by decide) (by simp) ⟨rfl,rfl,rfl,rfl⟩ ?_;refine AX (hK' _ _ ?_);clear hK' K';refine SG0 ?_;refine T2 (hK _ _ _ ?_);clear hK K;refine aG (b:=(gM ls a cO).isSome) rfl (fun hb=>?_) (fun hb=>?_)
 ·
  obtain⟨n,hn⟩:=Option.isSome_iff_exists.1 hb;obtain⟨hl,hl1,hl2,hl3⟩:=jS hn;have hreq:kL ls a=some ⟨6,n,0,[]⟩:=by rw[gO hl,aY2 hl1 hl2,hl3];rfl
  simp only[hn,Option.isSome_some,if_true,Option.getD_some];refine aB fun K hK=>Rg ?_;iterate 4 refine S0 ?_
  refine T2 (hK _ _ _ ?_);clear hK K;refine aE (RT Tryz.results128 ?_);rw[hreq];exact cH [] (Rq.cv ⟨6,n,0,[]⟩) (.bool true) (rdr ls (a+1)) rfl rfl (by simp[HV.close,HV.closeL,rdr,CV.denil,CV.denilL,aT,HV.norm,HV.toC,HV.toCL]) (by simp) ⟨rfl,rfl,rfl⟩
 have hwClean:gM ls a cO=none:=by simpa using hb
 simp only[hwClean,Option.isSome_none,Bool.false_eq_true,if_false,Option.getD_none];clear hb;refine aB fun K hK=>bX (by kernel_rfl) ?_;simp only[sR,simprocAttr];refine SG0 ?_;refine cE (g:=none) rfl rfl fun K' hK'=>?_;simp only[sN,↓hopH.eq_def,sH,↓sP,sA,tyS,simprocAttr];refine AX (hK' _ _ ?_);clear hK' K';refine bZ (g:=none) rfl rfl fun K' hK'=>T5 ?_;refine iP cR ha rfl rfl rfl (by decide) (by simp) ⟨rfl,rfl,rfl,rfl⟩ ?_;refine AX (hK' _ _ ?_);clear hK' K';refine SG0 ?_;refine T2 (hK _ _ _ ?_);clear hK K;refine aG (b:=(gM ls a cR).isSome) rfl (fun hb=>?_) (fun hb=>?_)
 ·
  obtain⟨n,hn⟩:=Option.isSome_iff_exists.1 hb;obtain⟨hl,hl1,hl2,hl3⟩:=jS hn;have hreq:kL ls a=some ⟨7,n,0,[]⟩:=by rw[gO hl,aY3 hl1 hl2,hl3];rfl
  simp only[hn,Option.isSome_some,if_true,Option.getD_some];refine aB fun K hK=>Rg ?_;iterate 4 refine S0 ?_
  refine T2 (hK _ _ _ ?_);clear hK K;refine aE (RT Tryz.results128 ?_);rw[hreq];exact cH [] (Rq.cv ⟨7,n,0,[]⟩) (.bool true) (rdr ls (a+1)) rfl rfl (by simp[HV.close,HV.closeL,rdr,CV.denil,CV.denilL,aT,HV.norm,HV.toC,HV.toCL]) (by simp) ⟨rfl,rfl,rfl⟩
 have hwFresh:gM ls a cR=none:=by simpa using hb
 simp only[hwFresh,Option.isSome_none,Bool.false_eq_true,if_false,Option.getD_none];clear hb;refine aB fun K hK=>Rg ?_;refine S0 ?_;refine HS rfl rfl fun K' hK'=>T5 ?_;refine dG (args:=[_,_]) (oI ls a cA ha) rfl (by simp) ⟨rfl,rfl,rfl,rfl⟩ ?_;rintro u v' ⟨rfl,rfl⟩;refine AX (hK' _ _ ?_);clear hK' K';refine S0 ?_;refine T2 (hK _ _ _ ?_);clear hK K;refine aG (b:=isV ls a cA 1) rfl (fun hb=>?_) (fun hb=>?_)
 ·
  obtain⟨hl,hl1,hl2⟩:=gN hb;have hreq:kL ls a=some ⟨8,0,0,[]⟩:=by rw[gO hl,aI0 hl1 hl2]
  rw[hb];refine aB fun K hK=>Rg ?_;iterate 3 refine S0 ?_
  refine T2 (hK _ _ _ ?_);clear hK K;refine aE (RT Tryz.results128 ?_);rw[hreq];exact cH [] (Rq.cv ⟨8,0,0,[]⟩) (.bool true) (rdr ls (a+1)) rfl rfl (by simp[HV.close,HV.closeL,rdr,CV.denil,CV.denilL,aT,HV.norm,HV.toC,HV.toCL]) (by simp) ⟨rfl,rfl,rfl⟩
 have hno:kL ls a=none:=bL0 hwReleased hChained hwApproved hRebuilt hwListed hwClean hwFresh hb;rw[hb];refine aJ ?_;refine T0 (hK _ _ _ ?_);clear hK K;refine aB fun K hK=>Rg ?_;iterate 3 refine S0 ?_
 refine T2 (hK _ _ _ ?_);clear hK K;refine aE (RT Tryz.results128 ?_);rw[hno];exact cH [] rq0.cv (.bool false) (rdr ls a) rfl rfl (by simp[HV.close,HV.closeL,rdr,CV.denil,CV.denilL,aT,HV.norm,HV.toC,HV.toCL]) (by simp) ⟨rfl,rfl,rfl⟩
theorem aT4 (ls:List (List aF))(a:Nat)(ha:ls.length<2^40):uL Tryz.prog 129 94 (rdr ls a) [] (fun u x v'=>u=((kI ls a).getD nd0).cv∧x= .bool (kI ls a).isSome∧v'=rdr ls (if(kI ls a).isSome then a+1 else a)):=by
 refine cI Tryz.func129 rfl (by kernel_rfl) (eI _ _ _) (Nat.le_of_ble_eq_true rfl) ?_;refine R0 ?_;refine R0 ?_;refine aB fun K hK=>?_;refine aN ?_;refine aB fun K hK=>Rg ?_;refine S0 ?_;refine HS rfl rfl fun K' hK'=>T5 ?_;refine dG (args:=[_,_]) (oI ls a eZ ha) rfl (by simp) ⟨rfl,rfl,rfl,rfl⟩ ?_;rintro u v' ⟨rfl,rfl⟩;refine AX (hK' _ _ ?_);clear hK' K';refine S0 ?_;refine T2 (hK _ _ _ ?_);clear hK K;refine aG (b:=isV ls a eZ 1) rfl (fun hb=>?_) (fun hb=>?_)
 ·
  have hreq:=bW2 hb;rw[hb];refine aB fun K hK=>Rg ?_;iterate 3 refine S0 ?_
  refine T2 (hK _ _ _ ?_);clear hK K;refine aE (RT Tryz.results129 ?_);rw[hreq];exact cH [] (Nd.cv ⟨2,0,0,rq0⟩) (.bool true) (rdr ls (a+1)) rfl rfl (by simp[HV.close,HV.closeL,rdr,CV.denil,CV.denilL,aT,HV.norm,HV.toC,HV.toCL]) (by simp) ⟨rfl,rfl,rfl⟩
 have hAll:isV ls a eZ 1=false:=hb;rw[hb];simp only[Bool.false_eq_true,if_false];clear hb;refine aB fun K hK=>Rg ?_;refine S0 ?_;refine HS rfl rfl fun K' hK'=>T5 ?_;refine dG (args:=[_,_]) (oI ls a fA ha) rfl (by simp) ⟨rfl,rfl,rfl,rfl⟩ ?_;rintro u v' ⟨rfl,rfl⟩;refine AX (hK' _ _ ?_);clear hK' K';refine S0 ?_;refine T2 (hK _ _ _ ?_);clear hK K;refine aG (b:=isV ls a fA 1) rfl (fun hb=>?_) (fun hb=>?_)
 ·
  have hreq:=bW3 hb;rw[hb];refine aB fun K hK=>Rg ?_;iterate 3 refine S0 ?_
  refine T2 (hK _ _ _ ?_);clear hK K;refine aE (RT Tryz.results129 ?_);rw[hreq];exact cH [] (Nd.cv ⟨3,0,0,rq0⟩) (.bool true) (rdr ls (a+1)) rfl rfl (by simp[HV.close,HV.closeL,rdr,CV.denil,CV.denilL,aT,HV.norm,HV.toC,HV.toCL]) (by simp) ⟨rfl,rfl,rfl⟩
 have hAny:isV ls a fA 1=false:=hb;rw[hb];simp only[Bool.false_eq_true,if_false];clear hb;refine aB fun K hK=>bX (by kernel_rfl) ?_;simp only[sR,simprocAttr];refine SG0 ?_;refine cE (g:=none) rfl rfl fun K' hK'=>?_;simp only[sN,↓hopH.eq_def,sH,↓sP,sA,tyS,simprocAttr];refine AX (hK' _ _ ?_);clear hK' K';refine bZ (g:=none) rfl rfl fun K' hK'=>T5 ?_;refine iP bQ ha rfl rfl rfl (by decide) (by simp) ⟨rfl,rfl,rfl,rfl⟩ ?_;refine AX (hK' _ _ ?_);clear hK' K';refine SG0 ?_;refine T2 (hK _ _ _ ?_);clear hK K;refine aG (b:=(gM ls a bQ).isSome) rfl (fun hb=>?_) (fun hb=>?_)
 ·
  obtain⟨n,hn⟩:=Option.isSome_iff_exists.1 hb;have hreq:=cE5 hn;simp only[hn,Option.isSome_some,if_true,Option.getD_some];refine aB fun K hK=>Rg ?_;iterate 4 refine S0 ?_
  refine T2 (hK _ _ _ ?_);clear hK K;refine aE (RT Tryz.results129 ?_);rw[hreq];exact cH [] (Nd.cv ⟨4,n,0,rq0⟩) (.bool true) (rdr ls (a+1)) rfl rfl (by simp[HV.close,HV.closeL,rdr,CV.denil,CV.denilL,aT,HV.norm,HV.toC,HV.toCL]) (by simp) ⟨rfl,rfl,rfl⟩
 have hAt:gM ls a bQ=none:=by simpa using hb
 have hno:=bL1 hAll hAny hAt;simp only[hAt,Option.isSome_none,Bool.false_eq_true,if_false,Option.getD_none];refine aJ ?_;refine T0 (hK _ _ _ ?_);clear hK K;refine aB fun K hK=>Rg ?_;iterate 3 refine S0 ?_
 refine T2 (hK _ _ _ ?_);clear hK K;refine aE (RT Tryz.results129 ?_);rw[hno];exact cH [] nd0.cv (.bool false) (rdr ls a) rfl rfl (by simp[HV.close,HV.closeL,rdr,CV.denil,CV.denilL,aT,HV.norm,HV.toC,HV.toCL]) (by simp) ⟨rfl,rfl,rfl⟩
def cI3 (ls:List (List aF))(a n:Nat)(T:List Nd)(X:Option (List Nd)×List (List aF))(r:HV)(os':List HO):Prop:=
 ∃T':List Nd,r= .tup [.own 1 T'.length,.c (.bool X.1.isSome)]∧os'=[.box 94 (.c (rdr ls (ls.length-X.2.length))),.row 40 7 (T'.map Nd.cv)]∧(∀t,X.1=some t→T'=T++t)∧0<T'.length∧T'.length+X.2.length≤n+(ls.length-a)
theorem cQ7 (ls:List (List aF))(a:Nat)(T:List Nd):lst [.box 94 (.c (rdr ls a)),.row 40 7 (T.map Nd.cv)]=fob [(0,.box 94 (.c (rdr ls a))),(1,.row 40 7 (T.map Nd.cv))]:=by
 funext i
 match i with
 |0=>rfl
 |1=>rfl
 |i+2=>simp[lst,fob,upd]
theorem bM0 (n:Nat)(ob:Ob)(e:TypeId)(sz:Nat)(v:CV)(L:List CV)(t:TypeId):kD (sub [0,1] n) ob 0 [.box t (.c v),.row e sz L]=upd (upd ob 0 (some (.box t (.c v)))) 1 (some (.row e sz L)):=rfl
theorem aT5 (n m:Nat)(v:CV):HV.ren (sub [0,1] n) (.tup [.own 1 m,.c v])= .tup [.own 1 m,.c v]:=rfl
theorem innR_c {w:List aF}{n:Nd}(h:dZ w=some n):n.c=0:=by
 unfold dZ at h;split at h
 · cases h;rfl
 split at h
 · cases h;rfl
 split at h
 ·
  cases hn:bL (wd w 1)with
  |none=>rw[hn]at h;cases h
  |some x=>rw[hn]at h;cases h;rfl
 cases h
theorem pH {b n m:Nat}{T T':List Nd}{L:List CV}{bo:Bool}{X:Option (List Nd)×List (List aF)}(h0:ob 0=some (.box 94 (.c (rdr ls b))))(h1:ob 1=some (.row 40 7 L))(hm:m=T'.length)(hL:L=T'.map Nd.cv)(hb:b=ls.length-X.2.length)(hbo:bo=X.1.isSome)
  (hT: ∀t,X.1=some t→T'=T++t) (hp:0<T'.length) (hl:T'.length+X.2.length≤n+(ls.length-a)):
  mB 2 (.tup [.own 1 m,.c (.bool bo)]) ob (fun r ob'=> ∃os',ob'=lst os'∧(2≤os'.length∧os'.length≤2+4)∧cI3 ls a n T X r os'):=by
 subst hb hbo hm hL;exact eO [] [] (.tup [.own 1 T'.length,.c (.bool X.1.isSome)]) [.box 94 (.c (rdr ls (ls.length-X.2.length))),.row 40 7 (T'.map Nd.cv)] rfl (by simp[HV.men,HV.menL]) ⟨⟨by simp[HO.men,HV.men],by simp,_,h0,by simp[HO.close,HV.close,HO.ren,HV.ren,HV.norm,fI,HV.toC,rdr,CV.denil,CV.denilL,aT]⟩,⟨by simp[HO.men],by simp,_,h1,rfl⟩,trivial⟩ rfl List.nodup_nil (by simp) (by simp) ⟨T',rfl,rfl,hT,hp,hl⟩
theorem cG1 (f:Nat): ∀(ls:List (List aF)) (a:Nat) (T:List Nd),a≤ls.length→2*(ls.length-a)+1≤f→0<T.length→ls.length<2^39→T.length+(ls.length-a)<2^39→
  HGe Tryz.prog 108 [.ptr 0 0,.own 1 T.length] [.box 94 (.c (rdr ls a)),.row 40 7 (T.map Nd.cv)] (cI3 ls a T.length T (rdN f (ls.drop a))):=by
 induction f using Nat.strongRecOn with
 |ind f ih=>?_
 intro ls a T hal hfu hT0 hls hTl;refine cI (args:=[.ptr 0 0,.own 1 T.length]) Tryz.func108 rfl (by kernel_rfl) (fZ rfl (by simp[eU,HO.men,HV.men,HV.menL]) (by simp[HV.menL,HV.men])) (Nat.le_of_ble_eq_true rfl) ?_;show Hw _ _ 2 _ _ _ (lst _) 2;rw[cQ7];refine R0 ?_;refine aB fun K hK=>?_;refine aB fun K hK=>Rg ?_;refine S0 ?_;refine HS rfl rfl fun K' hK'=>T5 ?_;refine eR (args:=[]) (aT3 ls a (by omega)) rfl (by simp) ⟨rfl,rfl,rfl,rfl⟩ ?_;rintro u x v' ⟨rfl,rfl,rfl⟩;refine AX (hK' _ _ ?_);clear hK' K';iterate 6 refine S0 ?_
 refine T2 (hK _ _ _ ?_);clear hK K;refine R0 ?_;refine aG (b:=(kL ls a).isSome) rfl (fun hb=>?_) (fun hb=>?_)
 ·
  obtain⟨q,hq⟩:=Option.isSome_iff_exists.1 hb;obtain⟨hl,hq2⟩: ∃h:a<ls.length,dD ls[a]=some q:=by
   unfold kL at hq;split at hq
   · exact⟨by assumption,hq⟩
   cases hq
  obtain⟨g,rfl⟩: ∃g,f=g+1:=⟨f-1,by omega⟩;rw[List.drop_eq_getElem_cons hl,oD hq2];simp only[hq,Option.isSome_some,if_true,Option.getD_some];refine aB fun K hK=>Rg ?_;iterate 7 refine S0 ?_
  refine T2 (hK _ _ _ ?_);clear hK K;refine aE (RT Tryz.results108 ?_);exact pH (T':=T++[⟨1,0,0,q⟩]) rfl rfl (by simp) (by simp) (by simp only[List.length_drop];omega) rfl (fun t h=>by cases h;rfl) (by simp) (by simp only[List.length_append,List.length_cons,List.length_nil,List.length_drop];omega)
 have hno:kL ls a=none:=by simpa using hb
 simp only[hno,Option.isSome_none,Bool.false_eq_true,if_false,Option.getD_none];clear hb;refine aJ ?_;refine T0 (hK _ _ _ ?_);clear hK K;refine aB fun K hK=>Rg ?_;refine S0 ?_;refine HS rfl rfl fun K' hK'=>T5 ?_;refine eR (args:=[]) (aT4 ls a (by omega)) rfl (by simp) ⟨rfl,rfl,rfl,rfl⟩ ?_;rintro u x v' ⟨rfl,rfl,rfl⟩;refine AX (hK' _ _ ?_);clear hK' K';iterate 6 refine S0 ?_
 refine T2 (hK _ _ _ ?_);clear hK K;refine aB fun K hK=>?_;refine R0 ?_;refine aG (b:=!(kI ls a).isSome) rfl (fun hb=>?_) (fun hb=>?_)
 ·
  have hi:kI ls a=none:=by simpa using hb
  have hX:rdN f (ls.drop a)=(none,ls.drop a):=by
   obtain⟨g,rfl⟩: ∃g,f=g+1:=⟨f-1,by omega⟩;rcases Nat.lt_or_ge a ls.length with hl|hl
   · rw[gO hl]at hno;unfold kI at hi;rw[dif_pos hl]at hi;rw[List.drop_eq_getElem_cons hl,oE hno hi]
   rw[List.drop_eq_nil_of_le hl];rfl
  rw[hX];simp only[hi,Option.isSome_none,Bool.false_eq_true,if_false];refine R0 ?_;refine aE (RT Tryz.results108 ?_);exact pH (T':=T) rfl rfl rfl rfl (by simp only[List.length_drop];omega) rfl (fun t h=>by cases h) hT0 (by simp only[List.length_drop];omega)
 refine aJ ?_;refine T0 (hK _ _ _ ?_);clear hK K;obtain⟨nd,hi⟩: ∃nd,kI ls a=some nd:=by
  cases h:kI ls a with
  |none=>rw[h]at hb;simp at hb
  |some nd=>exact⟨nd,rfl⟩
 obtain⟨hl,hi2⟩: ∃h:a<ls.length,dZ ls[a]=some nd:=by
  unfold kI at hi;split at hi
  · exact⟨by assumption,hi⟩
  cases hi
 rw[gO hl]at hno;have hc0:=innR_c hi2;have hnd:({k:=nd.k,n:=nd.n,c:=0,q:=nd.q}:Nd)=nd:=by cases nd;simp only at hc0;rw[hc0]
 have hst:=KdSt.init hl hfu hno hi2;simp only[hi,Option.isSome_some,if_true,Option.getD_some];clear hb;refine R0 ?_;refine aB fun K hK=>Rg ?_;iterate 5 refine S0 ?_
 refine T2 (hK _ _ _ ?_);clear hK K;refine aB fun K hK=>?_;refine aN ?_;refine bS (α:={y:Nat×List Nd×Nat×Nat//KdSt f ls a nd y.1 y.2.1 y.2.2.1 y.2.2.2}) (fun y=>(fin [(0,.ptr 0 0),(1,.own 1 (T.length+1+y.1.2.1.length)),(10,.c (.int .i64 T.length))],fob [(0,.box 94 (.c (rdr ls y.1.2.2.2))),(1,.row 40 7 ((T++{nd with c:=(y.1.2.2.1:Int)}::y.1.2.1).map Nd.cv))])) 2000 (fun y=>y.1.1) ⟨(f-1,[],0,a+1),hst⟩ (aL (by omega) (by simp[aY,fin_at,finA_at,upd_at,HV.men,HV.menL,HV.norm,HV.toC,HV.toCL,hnd]) (by simp[aZ,fob_at,upd_at,none0_at,bV,HO.men,HV.men,HV.menL,HV.norm,HV.toC,HV.toCL,hnd])) ?_;rintro⟨⟨g,ts,k,p⟩,hΦ⟩;simp only at hΦ;refine aB fun K hK=>?_;refine aB fun K hK=>Rg ?_;refine S0 ?_;refine HS rfl rfl fun K' hK'=>T5 ?_;refine dG (args:=[_,_]) (oI ls p wEnd (by omega)) rfl (by simp) ⟨rfl,rfl,rfl,rfl⟩ ?_;rintro u v' ⟨rfl,rfl⟩;refine AX (hK' _ _ ?_);clear hK' K';refine S0 ?_;refine T2 (hK _ _ _ ?_);clear hK K;refine aG (b:=!isV ls p wEnd 1) rfl (fun hb=>?_) (fun hb=>?_)
 ·
  have hev:isV ls p wEnd 1=false:=by simpa using hb
  obtain⟨Tq,hTq⟩: ∃Tq,Tq=T++{nd with c:=(k:Int)}::ts:=⟨_,rfl⟩;have hTql:T.length+1+ts.length=Tq.length:=by rw[hTq];simp;omega
  have hp1:=hΦ.le;have hp2:=hΦ.fuel;have hp3:=hΦ.lt;have hp4:=hΦ.len;have hp5:=hΦ.kids;rw[←hTq,hTql,hev];simp only[Bool.false_eq_true,if_false];clear hb;refine aJ ?_;refine T0 (hK _ _ _ ?_);clear hK K;refine aN ?_;refine aB fun K hK=>?_;refine aB fun K hK=>Rg ?_;iterate 2 refine S0 ?_
  refine HS rfl rfl fun K' hK'=>T5 ?_;refine fP [0,1] (ih (g-1) (by omega) ls p Tq hp1 (by omega) (by omega) hls (by omega)) rfl ⟨rfl,rfl,trivial⟩ (by simp) (by simp) ⟨rfl,rfl,rfl,rfl⟩ (by simp[eU,HO.men,HV.men,HV.menL]) (by simp[HV.menL,HV.men]) ?_;rintro r os' ⟨T',rfl,rfl,h1,h2,h3⟩;rw[bM0,aT5];refine AX (hK' _ _ ?_);clear hK' K';iterate 5 refine S0 ?_
  refine T2 (hK _ _ _ ?_);clear hK K;refine R0 ?_;refine aG (b:=!(rdN (g-1) (ls.drop p)).1.isSome) rfl (fun hb=>?_) (fun hb=>?_)
  ·
   have hn2:(rdN (g-1) (ls.drop p)).1=none:=by simpa using hb
   rw[hΦ.no hev hn2];refine R0 ?_;refine aE (RT Tryz.results108 ?_);exact pH (T':=T') rfl rfl rfl rfl rfl rfl (fun t h=>by cases h) h2 (by simp only;omega)
  obtain⟨t,ht⟩: ∃t,(rdN (g-1) (ls.drop p)).1=some t:=by
   cases h:(rdN (g-1) (ls.drop p)).1 with
   |none=>rw[h]at hb;simp at hb
   |some t=>exact⟨t,rfl⟩
  have hst2:=hΦ.some_ hev ht;have hT':=h1 t ht;have hlt:T.length<T'.length:=by rw[hT',List.length_append];omega
  have hge:T'[T.length]={nd with c:=(k:Int)}:=by simp[hT',hTq]
  have hw:IntKind.i64.wrap ((k:Int)+1)=((k+1:Nat):Int):=IntWalk.i64_in _ (by omega);have hmne:(T'.map Nd.cv=[])=False:=by simp;intro h;rw[h]at hlt;cases hlt
  clear hb;refine aJ ?_;refine T0 (hK _ _ _ ?_);clear hK K;refine Rg ?_;have F:=aI @Int.natCast_nonneg (aI @Int.ofNat_lt (aI hlt (aI (nM hlt) (aI hge (aI hw (aI hmne (aI not_false_eq_true @List.length_map.{0,0})))))));iterate 9 refine SF ?_
  refine T4 ?_;refine⟨⟨(g-1,ts++t,k+1,ls.length-(rdN (g-1) (ls.drop p)).2.length),hst2⟩,?_,?_⟩
  ·
   have hrow:(List.map Nd.cv T').set T.length (Nd.cv {nd with c:=((k+1:Nat):Int)})=List.map Nd.cv (T++{nd with c:=((k+1:Nat):Int)}::(ts++t)):=by
    rw[hT',hTq,←List.map_set];simp[List.set_append]
   have hlen:T'.length=T.length+1+(ts++t).length:=by rw[hT',hTq];simp;omega
   simp only[];rw[←hrow,←hlen];exact fF
  show g-1<g;omega
 have hev:isV ls p wEnd 1=true:=by simpa using hb
 obtain⟨hp,hX⟩:=hΦ.end_ hev;have hp4:=hΦ.len;rw[hev];simp only[if_true];refine bI (T3 ?_);clear hK K;refine AX (hK _ _ _ ?_);clear hK K;refine R0 ?_;refine aE (RT Tryz.results108 ?_);rw[hX];exact pH (T':=T++{nd with c:=(k:Int)}::ts) rfl rfl (by simp;omega) rfl (by simp only[List.length_drop];omega) rfl (fun t h=>by cases h;rfl) (by simp;omega) (by simp only[List.length_append,List.length_cons,List.length_drop];omega)
theorem bM1 (N n:Nat)(ob:Ob)(e:TypeId)(sz:Nat)(v:CV)(L:List CV)(t:TypeId):kD (sub [0,N] n) ob 0 [.box t (.c v),.row e sz L]=upd (upd ob 0 (some (.box t (.c v)))) N (some (.row e sz L)):=rfl
theorem aD8 (N n m:Nat)(v:CV):HV.ren (sub [0,N] n) (.tup [.own 1 m,.c v])= .tup [.own N m,.c v]:=rfl
theorem bY8 (f:Nat)(ls:List (List aF))(a:Nat)(hal:a≤ls.length)(hfu:2*(ls.length-a)+1≤f)(hls:ls.length<2^39):
  uL Tryz.prog 108 94 (rdr ls a) [.nils] (fun u x v'=> ∃T':List Nd,u= .slc (T'.map Nd.cv)∧x= .bool (rdN f (ls.drop a)).1.isSome∧v'=rdr ls (ls.length-(rdN f (ls.drop a)).2.length)∧ ∀t,(rdN f (ls.drop a)).1=some t→T'=t):=by
 refine cI Tryz.func108 rfl (by kernel_rfl) (eI _ _ _) (Nat.le_of_ble_eq_true rfl) ?_;refine R0 ?_;refine aB fun K hK=>?_;refine aB fun K hK=>Rg ?_;refine S0 ?_;refine HS rfl rfl fun K' hK'=>T5 ?_;refine eR (args:=[]) (aT3 ls a (by omega)) rfl (by simp) ⟨rfl,rfl,rfl,rfl⟩ ?_;rintro u x v' ⟨rfl,rfl,rfl⟩;refine AX (hK' _ _ ?_);clear hK' K';iterate 6 refine S0 ?_
 refine T2 (hK _ _ _ ?_);clear hK K;refine R0 ?_;refine aG (b:=(kL ls a).isSome) rfl (fun hb=>?_) (fun hb=>?_)
 ·
  obtain⟨q,hq⟩:=Option.isSome_iff_exists.1 hb;obtain⟨hl,hq2⟩: ∃h:a<ls.length,dD ls[a]=some q:=by
   unfold kL at hq;split at hq
   · exact⟨by assumption,hq⟩
   cases hq
  obtain⟨g,rfl⟩: ∃g,f=g+1:=⟨f-1,by omega⟩;rw[List.drop_eq_getElem_cons hl,oD hq2];simp only[hq,Option.isSome_some,if_true,Option.getD_some];refine aB fun K hK=>Rg ?_;iterate 7 refine S0 ?_
  refine T2 (hK _ _ _ ?_);clear hK K;refine aE (RT Tryz.results108 ?_);exact cH [61] (.slc [Nd.cv ⟨1,0,0,q⟩]) (.bool true) (rdr ls (a+1)) (by simp[HV.close,HV.closeL,HO.close,fob_at,upd_at,CV.denil,CV.denilL,denilL_Nd,HV.norm,HV.toC,HV.toCL]) rfl (by simp[HV.close,HV.closeL,rdr,CV.denil,CV.denilL,aT,HV.norm,HV.toC,HV.toCL]) (by simp) ⟨[⟨1,0,0,q⟩],rfl,rfl,by simp only[List.length_drop];congr 1;omega,fun t h=>by cases h;rfl⟩
 have hno:kL ls a=none:=by simpa using hb
 simp only[hno,Option.isSome_none,Bool.false_eq_true,if_false,Option.getD_none];clear hb;refine aJ ?_;refine T0 (hK _ _ _ ?_);clear hK K;refine aB fun K hK=>Rg ?_;refine S0 ?_;refine HS rfl rfl fun K' hK'=>T5 ?_;refine eR (args:=[]) (aT4 ls a (by omega)) rfl (by simp) ⟨rfl,rfl,rfl,rfl⟩ ?_;rintro u x v' ⟨rfl,rfl,rfl⟩;refine AX (hK' _ _ ?_);clear hK' K';iterate 6 refine S0 ?_
 refine T2 (hK _ _ _ ?_);clear hK K;refine aB fun K hK=>?_;refine R0 ?_;refine aG (b:=!(kI ls a).isSome) rfl (fun hb=>?_) (fun hb=>?_)
 ·
  have hi:kI ls a=none:=by simpa using hb
  have hX:rdN f (ls.drop a)=(none,ls.drop a):=by
   obtain⟨g,rfl⟩: ∃g,f=g+1:=⟨f-1,by omega⟩;rcases Nat.lt_or_ge a ls.length with hl|hl
   · rw[gO hl]at hno;unfold kI at hi;rw[dif_pos hl]at hi;rw[List.drop_eq_getElem_cons hl,oE hno hi]
   rw[List.drop_eq_nil_of_le hl];rfl
  rw[hX];simp only[hi,Option.isSome_none,Bool.false_eq_true,if_false];refine R0 ?_;refine aE (RT Tryz.results108 ?_);exact cH [] (.slc []) (.bool false) (rdr ls a) (by simp[HV.close,HV.closeL,HO.close,fob_at,upd_at,CV.denil,CV.denilL,denilL_Nd,HV.norm,HV.toC,HV.toCL]) rfl (by simp[HV.close,HV.closeL,rdr,CV.denil,CV.denilL,aT,HV.norm,HV.toC,HV.toCL]) (by simp) (by refine⟨[],rfl,rfl,?_⟩;first|exact(by simp only[List.length_drop];congr 1;omega)|exact⟨by simp only[List.length_drop];congr 1;omega,fun t h=>by cases h⟩)
 refine aJ ?_;refine T0 (hK _ _ _ ?_);clear hK K;obtain⟨nd,hi⟩: ∃nd,kI ls a=some nd:=by
  cases h:kI ls a with
  |none=>rw[h]at hb;simp at hb
  |some nd=>exact⟨nd,rfl⟩
 obtain⟨hl,hi2⟩: ∃h:a<ls.length,dZ ls[a]=some nd:=by
  unfold kI at hi;split at hi
  · exact⟨by assumption,hi⟩
  cases hi
 rw[gO hl]at hno;have hc0:=innR_c hi2;have hnd:({k:=nd.k,n:=nd.n,c:=0,q:=nd.q}:Nd)=nd:=by cases nd;simp only at hc0;rw[hc0]
 have hst:=KdSt.init hl hfu hno hi2;simp only[hi,Option.isSome_some,if_true,Option.getD_some];clear hb;refine R0 ?_;refine aB fun K hK=>Rg ?_;iterate 5 refine S0 ?_
 refine T2 (hK _ _ _ ?_);clear hK K;refine aB fun K hK=>?_;refine aN ?_;refine bS (α:={y:Nat×List Nd×Nat×Nat//KdSt f ls a nd y.1 y.2.1 y.2.2.1 y.2.2.2}) (fun y=>(fin [(0,.ptr 0 0),(1,.own 109 (1+y.1.2.1.length)),(10,.c (.int .i64 0))],fob [(0,.box 94 (.c (rdr ls y.1.2.2.2))),(109,.row 40 7 (({nd with c:=(y.1.2.2.1:Int)}::y.1.2.1).map Nd.cv))])) 2000 (fun y=>y.1.1) ⟨(f-1,[],0,a+1),hst⟩ (aL (by omega) (by simp[aY,fin_at,finA_at,upd_at,HV.men,HV.menL,HV.norm,HV.toC,HV.toCL,hnd]) (by simp[aZ,fob_at,upd_at,none0_at,bV,HO.men,HV.men,HV.menL,HV.norm,HV.toC,HV.toCL,hnd])) ?_;rintro⟨⟨g,ts,k,p⟩,hΦ⟩;simp only at hΦ;refine aB fun K hK=>?_;refine aB fun K hK=>Rg ?_;refine S0 ?_;refine HS rfl rfl fun K' hK'=>T5 ?_;refine dG (args:=[_,_]) (oI ls p wEnd (by omega)) rfl (by simp) ⟨rfl,rfl,rfl,rfl⟩ ?_;rintro u v' ⟨rfl,rfl⟩;refine AX (hK' _ _ ?_);clear hK' K';refine S0 ?_;refine T2 (hK _ _ _ ?_);clear hK K;refine aG (b:=!isV ls p wEnd 1) rfl (fun hb=>?_) (fun hb=>?_)
 ·
  have hev:isV ls p wEnd 1=false:=by simpa using hb
  obtain⟨Tq,hTq⟩: ∃Tq,Tq={nd with c:=(k:Int)}::ts:=⟨_,rfl⟩;have hTql:1+ts.length=Tq.length:=by rw[hTq];simp;omega
  have hp1:=hΦ.le;have hp2:=hΦ.fuel;have hp3:=hΦ.lt;have hp4:=hΦ.len;have hp5:=hΦ.kids;have hTm:Nd.cv {nd with c:=(k:Int)}::List.map Nd.cv ts=List.map Nd.cv Tq:=by rw[hTq];rfl
  rw[hTm,hTql,hev];simp only[Bool.false_eq_true,if_false];clear hb;refine aJ ?_;refine T0 (hK _ _ _ ?_);clear hK K;refine aN ?_;refine aB fun K hK=>?_;refine aB fun K hK=>Rg ?_;iterate 2 refine S0 ?_
  refine HS rfl rfl fun K' hK'=>T5 ?_;refine fP [0,109] (cG1 (g-1) ls p Tq hp1 (by omega) (by omega) hls (by omega)) rfl ⟨rfl,rfl,trivial⟩ (by simp) (by simp) ⟨rfl,rfl,rfl,rfl⟩ (by simp[eU,HO.men,HV.men,HV.menL]) (by simp[HV.menL,HV.men]) ?_;rintro r os' ⟨T',rfl,rfl,h1,h2,h3⟩;rw[bM1,aD8];refine AX (hK' _ _ ?_);clear hK' K';iterate 5 refine S0 ?_
  refine T2 (hK _ _ _ ?_);clear hK K;refine R0 ?_;refine aG (b:=!(rdN (g-1) (ls.drop p)).1.isSome) rfl (fun hb=>?_) (fun hb=>?_)
  ·
   have hn2:(rdN (g-1) (ls.drop p)).1=none:=by simpa using hb
   rw[hΦ.no hev hn2];refine R0 ?_;refine aE (RT Tryz.results108 ?_);exact cH [109] (.slc (T'.map Nd.cv)) (.bool false) (rdr ls (ls.length-(rdN (g-1) (ls.drop p)).2.length)) (by simp[HV.close,HV.closeL,HO.close,fob_at,upd_at,CV.denil,CV.denilL,denilL_Nd,HV.norm,HV.toC,HV.toCL]) rfl (by simp[HV.close,HV.closeL,rdr,CV.denil,CV.denilL,aT,HV.norm,HV.toC,HV.toCL]) (by simp) (by refine⟨T',rfl,rfl,?_⟩;first|exact rfl|exact⟨rfl,fun t h=>by cases h⟩)
  obtain⟨t,ht⟩: ∃t,(rdN (g-1) (ls.drop p)).1=some t:=by
   cases h:(rdN (g-1) (ls.drop p)).1 with
   |none=>rw[h]at hb;simp at hb
   |some t=>exact⟨t,rfl⟩
  have hst2:=hΦ.some_ hev ht;have hT':=h1 t ht;have hlt:0<T'.length:=by rw[hT',List.length_append];omega
  have hge:T'[0]={nd with c:=(k:Int)}:=by simp[hT',hTq]
  have hw:IntKind.i64.wrap ((k:Int)+1)=((k+1:Nat):Int):=IntWalk.i64_in _ (by omega);have hmne:(T'.map Nd.cv=[])=False:=by simp;intro h;rw[h]at hlt;cases hlt
  clear hb;refine aJ ?_;refine T0 (hK _ _ _ ?_);clear hK K;refine Rg ?_;have F:=aI @Int.natCast_nonneg (aI @Int.ofNat_lt (aI hlt (aI (nM hlt) (aI hge (aI hw (aI hmne (aI not_false_eq_true @List.length_map.{0,0})))))));iterate 9 refine SF ?_
  refine T4 ?_;refine⟨⟨(g-1,ts++t,k+1,ls.length-(rdN (g-1) (ls.drop p)).2.length),hst2⟩,?_,?_⟩
  ·
   have hrow:(List.map Nd.cv T').set 0 (Nd.cv {nd with c:=((k+1:Nat):Int)})=List.map Nd.cv ({nd with c:=((k+1:Nat):Int)}::(ts++t)):=by
    rw[hT',hTq,←List.map_set];simp
   have hlen:T'.length=1+(ts++t).length:=by rw[hT',hTq];simp;omega
   simp only[];rw[←hrow,←hlen];exact fF
  show g-1<g;omega
 have hev:isV ls p wEnd 1=true:=by simpa using hb
 obtain⟨hp,hX⟩:=hΦ.end_ hev;have hp4:=hΦ.len;rw[hev];simp only[if_true];refine bI (T3 ?_);clear hK K;refine AX (hK _ _ _ ?_);clear hK K;refine R0 ?_;refine aE (RT Tryz.results108 ?_);rw[hX];exact cH [109] (.slc (({nd with c:=(k:Int)}::ts).map Nd.cv)) (.bool true) (rdr ls (p+1)) (by simp[show 1+ts.length=ts.length+1 from by omega,HV.close,HV.closeL,HO.close,fob_at,upd_at,CV.denil,CV.denilL,denilL_Nd,HV.norm,HV.toC,HV.toCL]) rfl (by simp[HV.close,HV.closeL,rdr,CV.denil,CV.denilL,aT,HV.norm,HV.toC,HV.toCL]) (by simp) ⟨_,rfl,rfl,by simp only[List.length_drop];congr 1;omega,fun t h=>by cases h;rfl⟩
def pr0 :Pr:=⟨[],[],[],0,[]⟩
theorem bM2 (ls:List (List aF))(a:Nat)(hal:a≤ls.length)(hls:ls.length<2^39):
  uL Tryz.prog 90 94 (rdr ls a) [] (fun u x v'=> ∃q:Pr,u=q.cv∧x= .bool (rdR (ls.drop a)).1.isSome∧v'=rdr ls (ls.length-(rdR (ls.drop a)).2.length)∧ ∀p,(rdR (ls.drop a)).1=some p→q=p):=by
 refine cI Tryz.func90 rfl (by kernel_rfl) (eI _ _ _) (Nat.le_of_ble_eq_true rfl) ?_;refine R0 ?_;refine aB fun K hK=>?_;refine aB fun K hK=>Rg ?_;refine S0 ?_;refine HS rfl rfl fun K' hK'=>T5 ?_;refine dG (args:=[_,_]) (aD7 ls a 5 wRule (by omega)) rfl (by simp) ⟨rfl,rfl,rfl,rfl⟩ ?_;rintro u v' ⟨rfl,rfl⟩;refine AX (hK' _ _ ?_);clear hK' K';refine S0 ?_;refine T2 (hK _ _ _ ?_);clear hK K;refine aG (b:=!isV ls a wRule 5) rfl (fun hb=>?_) (fun hb=>?_)
 ·
  have hX:=cK8 hal (show isV ls a wRule 5=false by simpa using hb);refine aB fun K hK=>Rg ?_;iterate 3 refine S0 ?_
  refine T2 (hK _ _ _ ?_);clear hK K;refine aE (RT Tryz.results90 ?_);rw[hX];exact cH [] pr0.cv (.bool false) (rdr ls a) rfl rfl (by simp[HV.close,HV.closeL,rdr,CV.denil,CV.denilL,aT,HV.norm,HV.toC,HV.toCL]) (by simp) (by refine⟨pr0,rfl,rfl,?_⟩;first|exact(by simp only[List.length_drop];congr 1;omega)|exact⟨by simp only[List.length_drop];congr 1;omega,fun t h=>by cases h⟩)
 refine aJ ?_;refine T0 (hK _ _ _ ?_);clear hK K;obtain⟨hl,hl1,hl2⟩:=gN (show isV ls a wRule 5=true by simpa using hb);have h1:1<ls[a].length:=by omega
 have h2:2<ls[a].length:=by omega
 have h3:3<ls[a].length:=by omega
 have hw:IntKind.i64.wrap ((a:Int)+1)=((a+1:Nat):Int):=IntWalk.i64_in _ (by omega);clear hb;refine aB fun K hK=>QR ?_;iterate 11 refine S0 ?_ (e:=fun _ h_=>by simp only[sH,↓sP,sA,tyS,simprocAttr,rdr,Int.natCast_nonneg,Int.ofNat_lt,hl,bR hl,eS];exact AX h_)
 refine T2 (hK _ _ _ ?_);clear hK K;refine aB fun K hK=>Rg ?_;refine S0 ?_;refine HS rfl rfl fun K' hK'=>T5 ?_;refine eR (args:=[_]) (lX ls a 4 hl (by omega)) rfl (by simp) ⟨rfl,rfl,rfl,rfl⟩ ?_;rintro u x v' ⟨rfl,rfl,rfl⟩;refine AX (hK' _ _ ?_);clear hK' K';iterate 5 refine S0 ?_
 refine T2 (hK _ _ _ ?_);clear hK K;refine aB fun K hK=>?_;refine R0 ?_;refine aG (b:=!(bL (wd ls[a] 4)).isSome) rfl (fun hb=>?_) (fun hb=>?_)
 ·
  have hX:=cE6 hl hl1 hl2 (show bL (wd ls[a] 4)=none by simpa using hb);refine aB fun K hK=>Rg ?_;iterate 3 refine S0 ?_
  refine T2 (hK _ _ _ ?_);clear hK K;refine aE (RT Tryz.results90 ?_);rw[hX];exact cH [] pr0.cv (.bool false) (rdr ls a) rfl rfl (by simp[HV.close,HV.closeL,rdr,CV.denil,CV.denilL,aT,HV.norm,HV.toC,HV.toCL]) (by simp) (by refine⟨pr0,rfl,rfl,?_⟩;first|exact(by simp only[List.length_drop];congr 1;omega)|exact⟨by simp only[List.length_drop];congr 1;omega,fun t h=>by cases h⟩)
 refine aJ ?_;refine T0 (hK _ _ _ ?_);clear hK K;obtain⟨g,hg⟩: ∃g,bL (wd ls[a] 4)=some g:=by
  cases h:bL (wd ls[a] 4)with
  |none=>rw[h]at hb;simp at hb
  |some g=>exact⟨g,rfl⟩
 have hX:=bW6 hl hl1 hl2 hg;clear hb;simp only[hg,Option.getD_some];have hN:uL Tryz.prog 108 94 (rdr ls (a+1)) [.nils] (fun u x v'=> ∃T':List Nd,u= .slc (T'.map Nd.cv)∧x= .bool (rdT (ls.drop (a+1))).1.isSome∧v'=rdr ls (ls.length-(rdT (ls.drop (a+1))).2.length)∧ ∀t,(rdT (ls.drop (a+1))).1=some t→T'=t):=bY8 (2*(ls.drop (a+1)).length+2) ls (a+1) hl (by simp only[List.length_drop];omega) hls;refine aB fun K hK=>Rg ?_;iterate 8 refine S0 ?_ (e:=fun _ h_=>by simp only[sH,↓sP,sA,tyS,simprocAttr,rdr,hw];exact AX h_)
 refine T2 (hK _ _ _ ?_);clear hK K;refine aB fun K hK=>bX (by kernel_rfl) ?_;simp only[sR,simprocAttr];refine SG0 ?_;refine aM4 (g:=none) rfl rfl fun K' hK'=>?_;simp only[sN,↓hopH.eq_def,sH,↓sP,sA,tyS,simprocAttr];refine eR (args:=[_]) hN rfl (by simp) ⟨rfl,rfl,rfl,rfl⟩ ?_;rintro u x v' ⟨T',rfl,rfl,rfl,hT⟩;refine AX (hK' _ _ ?_);clear hK' K';iterate 5 refine SG0 ?_
 refine T2 (hK _ _ _ ?_);clear hK K;refine aB fun K hK=>DW [(0,[],[]),(1,[],[]),(2,[],[]),(3,[],[]),(4,[],[]),(5,[],[]),(6,[],[]),(7,[],[]),(8,[],[]),(9,[],[]),(10,[],[]),(11,[],[]),(12,[],[]),(13,[],[12]),(14,[],[])] [0,1,3,0,8,24,0,64,192,0,0,2047,0,4095,16383] ?_;iterate 15 refine W0 ?_ (e:=fun _ h_=>by simp only[sH,↓sP,sA,tyS,simprocAttr,lsC,Int.one_nonneg,cF h1,cF h2,cF h3,hl1];exact AX h_)
 refine T2 (hK _ _ _ ?_);clear hK K;refine aE (RT Tryz.results90 ?_);rw[hX];exact cH [] (Pr.cv ⟨wd ls[a] 1,wd ls[a] 2,wd ls[a] 3,g,T'⟩) (.bool (rdT (ls.drop (a+1))).1.isSome) (rdr ls (ls.length-(rdT (ls.drop (a+1))).2.length)) (by simp[HV.close,HV.closeL,Pr.cv,CV.denil,CV.denilL,denilL_Nd,HV.norm,HV.toC,HV.toCL]) rfl (by simp[HV.close,HV.closeL,rdr,CV.denil,CV.denilL,aT,HV.norm,HV.toC,HV.toCL]) (by simp) ⟨_,rfl,by simp,rfl,fun p h=>by
  cases h4:(rdT (ls.drop (a+1))).1 with
  |none=>simp[h4]at h
  |some t=>simp[h4]at h;rw[←h,hT t h4]⟩
theorem bY9 (ls:List (List aF))(hls:ls.length<2^39):
  uL Tryz.prog 63 94 (rdr ls 0) [] (fun u x v'=> ∃q:Po,u=q.cv∧x= .bool (rdP ls).1.isSome∧v'=rdr ls (ls.length-(rdP ls).2.length)∧ ∀p,(rdP ls).1=some p→q=p):=by
 refine cI Tryz.func63 rfl (by kernel_rfl) (eI _ _ _) (Nat.le_of_ble_eq_true rfl) ?_;refine R0 ?_;refine aB fun K hK=>?_;refine aB fun K hK=>Rg ?_;refine S0 ?_;refine HS rfl rfl fun K' hK'=>T5 ?_;refine dG (args:=[_,_]) (aD7 ls 0 3 wPolicy (by omega)) rfl (by simp) ⟨rfl,rfl,rfl,rfl⟩ ?_;rintro u v' ⟨rfl,rfl⟩;refine AX (hK' _ _ ?_);clear hK' K';refine S0 ?_;refine T2 (hK _ _ _ ?_);clear hK K;refine aG (b:=!isV ls 0 wPolicy 3) rfl (fun hb=>?_) (fun hb=>?_)
 ·
  have hX:=cK9 (show isV ls 0 wPolicy 3=false by simpa using hb);refine aB fun K hK=>Rg ?_;iterate 3 refine S0 ?_
  refine T2 (hK _ _ _ ?_);clear hK K;refine aE (RT Tryz.results63 ?_);rw[hX];exact cH [] po0.cv (.bool false) (rdr ls 0) (by simp[HV.close,HV.closeL,HO.close,fob_at,upd_at,po0,Po.cv,CV.denil,CV.denilL,denilL_Pr,HV.norm,HV.toC,HV.toCL]) rfl (by simp[HV.close,HV.closeL,rdr,CV.denil,CV.denilL,aT,HV.norm,HV.toC,HV.toCL]) (by simp) (by refine⟨po0,rfl,rfl,?_⟩;first|exact(by simp only[List.length_drop];congr 1;omega)|exact rfl|exact⟨by simp,fun t h=>by cases h⟩)
 refine aJ ?_;refine T0 (hK _ _ _ ?_);clear hK K;obtain⟨hl,hl1,hl2⟩:=gN (show isV ls 0 wPolicy 3=true by simpa using hb);have h1:1<ls[0].length:=by omega
 clear hb;refine aB fun K hK=>Rg ?_;refine S0 ?_;refine HS rfl rfl fun K' hK'=>T5 ?_;refine eR (args:=[_]) (lX ls 0 2 hl (by omega)) rfl (by simp) ⟨rfl,rfl,rfl,rfl⟩ ?_;rintro u x v' ⟨rfl,rfl,rfl⟩;refine AX (hK' _ _ ?_);clear hK' K';iterate 5 refine S0 ?_
 refine T2 (hK _ _ _ ?_);clear hK K;refine aB fun K hK=>?_;refine R0 ?_;refine aG (b:=!(bL (wd ls[0] 2)).isSome) rfl (fun hb=>?_) (fun hb=>?_)
 ·
  have hX:=cE7 hl hl1 hl2 (show bL (wd ls[0] 2)=none by simpa using hb);refine aB fun K hK=>Rg ?_;iterate 3 refine S0 ?_
  refine T2 (hK _ _ _ ?_);clear hK K;refine aE (RT Tryz.results63 ?_);rw[hX];exact cH [] po0.cv (.bool false) (rdr ls 0) (by simp[HV.close,HV.closeL,HO.close,fob_at,upd_at,po0,Po.cv,CV.denil,CV.denilL,denilL_Pr,HV.norm,HV.toC,HV.toCL]) rfl (by simp[HV.close,HV.closeL,rdr,CV.denil,CV.denilL,aT,HV.norm,HV.toC,HV.toCL]) (by simp) (by refine⟨po0,rfl,rfl,?_⟩;first|exact(by simp only[List.length_drop];congr 1;omega)|exact rfl|exact⟨by simp,fun t h=>by cases h⟩)
 refine aJ ?_;refine T0 (hK _ _ _ ?_);clear hK K;obtain⟨v,hv⟩: ∃v,bL (wd ls[0] 2)=some v:=by
  cases h:bL (wd ls[0] 2)with
  |none=>rw[h]at hb;simp at hb
  |some v=>exact⟨v,rfl⟩
 obtain⟨X,hX,hst⟩:=bW7 hl hl1 hl2 hv;clear hb;simp only[hv,Option.getD_some];refine aB fun K hK=>Rg ?_;iterate 12 refine S0 ?_ (e:=fun _ h_=>by simp only[sH,↓sP,sA,tyS,simprocAttr,rdr,hl,bR hl,lsC,cF h1,Int.one_nonneg,hl1,Int.natCast_pos];exact AX h_)
 refine T2 (hK _ _ _ ?_);clear hK K;refine aB fun K hK=>?_;refine aB fun K hK=>Rg ?_;iterate 8 refine S0 ?_ (e:=fun _ h_=>by simp only[sH,↓sP,sA,tyS,simprocAttr,rdr];exact AX h_)
 refine T2 (hK _ _ _ ?_);clear hK K;refine aN ?_;refine qZ 97 2 54 5 rfl rfl rfl rfl ?_;refine bS (α:={y:List Pr×Nat//RsSt ls X y.1 y.2}) (fun y=>(fin [(0,.ptr 0 0),(2,.ptr 1 0),(6,.ptr 97 0)],fob [(0,.box 94 (.c (rdr ls y.1.2))),(1,.box 45 (.c (.agg [.str [],.int .i64 0,.nils]))),(97,.box 45 (.agg [.c (.str (wd ls[0] 1)),.c (.int .i64 v),.own 137 y.1.1.length])),(137,.row 54 5 (y.1.1.map Pr.cv))])) 2000 (fun y=>ls.length-y.1.2) ⟨([],1),hst⟩ (aL (by omega) (by simp[aY,fin_at,finA_at,upd_at,HV.men,HV.menL,HV.norm,HV.toC,HV.toCL,rdr,show IntKind.i64.wrap 1=1 from rfl]) (by simp[aZ,fob_at,upd_at,none0_at,bV,HO.men,HV.men,HV.menL,HV.norm,HV.toC,HV.toCL,rdr,show IntKind.i64.wrap 1=1 from rfl])) ?_;rintro⟨⟨acc,p⟩,hΦ⟩;simp only at hΦ;refine aB fun K hK=>?_;refine aB fun K hK=>QR ?_;iterate 10 refine S0 ?_ (e:=fun _ h_=>by simp only[sH,↓sP,sA,tyS,simprocAttr,rdr];exact AX h_)
 refine T2 (hK _ _ _ ?_);clear hK K;refine aG (b:=decide ((p:Int)<ls.length)) rfl (fun hb=>?_) (fun hb=>?_)
 ·
  have hp:p<ls.length:=by simpa using hb
  have hp1:=hΦ.le;have hp2:=hΦ.len;clear hb;refine aJ ?_;refine T0 (hK _ _ _ ?_);clear hK K;refine aN ?_;refine aB fun K hK=>Rg ?_;refine S0 ?_;refine HS rfl rfl fun K' hK'=>T5 ?_;refine eR (args:=[]) (bM2 ls p hp1 hls) rfl (by simp) ⟨rfl,rfl,rfl,rfl⟩ ?_;rintro u x v' ⟨q,rfl,rfl,rfl,hq⟩;refine AX (hK' _ _ ?_);clear hK' K';iterate 6 refine S0 ?_
  refine T2 (hK _ _ _ ?_);clear hK K;refine aB fun K hK=>?_;refine R0 ?_;refine aG (b:=!(rdR (ls.drop p)).1.isSome) rfl (fun hb=>?_) (fun hb=>?_)
  ·
   have hno:(rdR (ls.drop p)).1=none:=by simpa using hb
   have hXn:=hΦ.no hp hno;refine aB fun K hK=>Rg ?_;iterate 3 refine S0 ?_
   refine T2 (hK _ _ _ ?_);clear hK K;refine aE (RT Tryz.results63 ?_);rw[hX,hXn];exact cH [] po0.cv (.bool false) (rdr ls (ls.length-(rdR (ls.drop p)).2.length)) (by simp[HV.close,HV.closeL,HO.close,fob_at,upd_at,po0,Po.cv,CV.denil,CV.denilL,denilL_Pr,HV.norm,HV.toC,HV.toCL]) rfl (by simp[HV.close,HV.closeL,rdr,CV.denil,CV.denilL,aT,HV.norm,HV.toC,HV.toCL]) (by simp) (by refine⟨po0,rfl,rfl,?_⟩;first|exact(by simp only[List.length_drop];congr 1;omega)|exact rfl|exact⟨by simp,fun t h=>by cases h⟩)
  obtain⟨x,hx⟩: ∃x,(rdR (ls.drop p)).1=some x:=by
   cases h:(rdR (ls.drop p)).1 with
   |none=>rw[h]at hb;simp at hb
   |some x=>exact⟨x,rfl⟩
  obtain⟨hst2,hlt2⟩:=hΦ.some_ hp hx;obtain rfl:=hq x hx;clear hb;refine aJ ?_;refine T0 (hK _ _ _ ?_);clear hK K;refine Rg ?_;iterate 7 refine S0 ?_
  refine T4 ?_;refine⟨⟨(acc++[q],ls.length-(rdR (ls.drop p)).2.length),hst2⟩,aL (by omega) (by simp[aY,fin_at,finA_at,upd_at,HV.men,HV.menL,HV.norm,HV.toC,HV.toCL,List.map_append]) (by simp[aZ,fob_at,upd_at,none0_at,bV,HO.men,HV.men,HV.menL,HV.norm,HV.toC,HV.toCL,List.map_append]),?_⟩;show ls.length-(ls.length-(rdR (ls.drop p)).2.length)<ls.length-p;omega
 have hp: ¬p<ls.length:=by simpa using hb
 obtain⟨rfl,hXs⟩:=hΦ.done hp;refine bI (T3 ?_);clear hK K;refine AX (hK _ _ _ ?_);clear hK K;refine aB fun K hK=>Rg ?_;iterate 3 refine S0 ?_
 refine T2 (hK _ _ _ ?_);clear hK K;refine aE (RT Tryz.results63 ?_);rw[hX,hXs];refine⟨rfl,?_⟩;exact cH [137] (Po.cv ⟨wd ls[0] 1,v,acc⟩) (.bool true) (rdr ls ls.length) (by simp[HV.close,HV.closeL,HO.close,fob_at,upd_at,po0,Po.cv,CV.denil,CV.denilL,denilL_Pr,HV.norm,HV.toC,HV.toCL]) rfl (by simp[HV.close,HV.closeL,rdr,CV.denil,CV.denilL,aT,HV.norm,HV.toC,HV.toCL]) (by simp) (by exact⟨_,rfl,rfl,by simp,fun p h=>by cases h;rfl⟩)
end Go.Proofs.YtlldglbooaefhaaGreatDoor
namespace Go.Proofs.YtlldglbooaefhaaGreatDoor
open Go Go.Hl Go.Pl Go.RowKit Go.Shelf
set_option maxRecDepth 100000
def cG2 :Go.Shelf.Ren:=⟨fun|173=>77|246=>102|283=>117|284=>118|285=>119|286=>120|129=>137|317=>136|318=>138|319=>139|320=>140|337=>148|338=>149|n=>n,fun|2=>2|3=>3|9=>9|4=>4|171=>155|0=>0|53=>116|37=>47|5=>5|173=>158|212=>169|51=>170|20=>20|213=>171|46=>41|232=>184|233=>185|n=>n,fun|17=>1|18=>4|19=>5|n=>n⟩
theorem cL9 :Go.Proofs.LaysM.n173 Tryz.prog cG2:={
  mixed:=by kernel_rfl
  f129:=Tryz.func137.trans (congrArg some (by kernel_rfl))
  f173:=Tryz.func77.trans (congrArg some (by kernel_rfl))
  f246:=Tryz.func102.trans (congrArg some (by kernel_rfl))
  f283:=Tryz.func117.trans (congrArg some (by kernel_rfl))
  f284:=Tryz.func118.trans (congrArg some (by kernel_rfl))
  f285:=Tryz.func119.trans (congrArg some (by kernel_rfl))
  f286:=Tryz.func120.trans (congrArg some (by kernel_rfl))
  f317:=Tryz.func136.trans (congrArg some (by kernel_rfl))
  f318:=Tryz.func138.trans (congrArg some (by kernel_rfl))
  f319:=Tryz.func139.trans (congrArg some (by kernel_rfl))
  f320:=Tryz.func140.trans (congrArg some (by kernel_rfl))
  f337:=Tryz.func148.trans (congrArg some (by kernel_rfl))
  f338:=Tryz.func149.trans (congrArg some (by kernel_rfl))
  t0:=Tryz.underlying0
  a0:=Tryz.isAgg0
  z0:=Tryz.sizeOf0
  v0:=Tryz.zeroValue0
  t2:=Tryz.underlying2
  a2:=Tryz.isAgg2
  z2:=Tryz.sizeOf2
  v2:=Tryz.zeroValue2
  t3:=Tryz.underlying3
  a3:=Tryz.isAgg3
  z3:=Tryz.sizeOf3
  v3:=Tryz.zeroValue3
  t4:=Tryz.underlying4
  a4:=Tryz.isAgg4
  z4:=Tryz.sizeOf4
  v4:=Tryz.zeroValue4
  t5:=Tryz.underlying5
  a5:=Tryz.isAgg5
  z5:=Tryz.sizeOf5
  v5:=Tryz.zeroValue5
  t9:=Tryz.underlying9
  a9:=Tryz.isAgg9
  z9:=Tryz.sizeOf9
  v9:=Tryz.zeroValue9
  t20:=Tryz.underlying20
  a20:=Tryz.isAgg20
  z20:=Tryz.sizeOf20
  v20:=Tryz.zeroValue20
  t37:=Tryz.underlying47
  a37:=Tryz.isAgg47
  z37:=Tryz.sizeOf47
  v37:=Tryz.zeroValue47
  t46:=Tryz.underlying41
  a46:=Tryz.isAgg41
  z46:=Tryz.sizeOf41
  v46:=Tryz.zeroValue41
  t51:=Tryz.underlying170
  a51:=Tryz.isAgg170
  z51:=Tryz.sizeOf170
  v51:=Tryz.zeroValue170
  t53:=Tryz.underlying116
  a53:=Tryz.isAgg116
  z53:=Tryz.sizeOf116
  v53:=Tryz.zeroValue116
  t171:=Tryz.underlying155
  a171:=Tryz.isAgg155
  z171:=Tryz.sizeOf155
  v171:=Tryz.zeroValue155
  t173:=Tryz.underlying158
  a173:=Tryz.isAgg158
  z173:=Tryz.sizeOf158
  v173:=Tryz.zeroValue158
  t212:=Tryz.underlying169
  a212:=Tryz.isAgg169
  z212:=Tryz.sizeOf169
  v212:=Tryz.zeroValue169
  t213:=Tryz.underlying171
  a213:=Tryz.isAgg171
  z213:=Tryz.sizeOf171
  t232:=Tryz.underlying184
  a232:=Tryz.isAgg184
  z232:=Tryz.sizeOf184
  v232:=Tryz.zeroValue184
  t233:=Tryz.underlying185
  a233:=Tryz.isAgg185
  z233:=Tryz.sizeOf185
  v233:=Tryz.zeroValue185
  g17:=by kernel_rfl
  g18:=by kernel_rfl
  g19:=by kernel_rfl
  i0:=by kernel_rfl
  i2:=by kernel_rfl
  i3:=by kernel_rfl
  i4:=by kernel_rfl
  i5:=by kernel_rfl
  i9:=by kernel_rfl
  i20:=by kernel_rfl
  i37:=by kernel_rfl
  i46:=by kernel_rfl
  i51:=by kernel_rfl
  i53:=by kernel_rfl
  i171:=by kernel_rfl
  i173:=by kernel_rfl
  i212:=by kernel_rfl
  i232:=by kernel_rfl
  i233:=by kernel_rfl
  m17:=by kernel_rfl
  m18:=by kernel_rfl
  m19:=by kernel_rfl}
theorem aI9 :Tryz.prog.globalNamed "internal/strconv.uint64pow10" =some 1:=by kernel_rfl
def tabs :lE:=[(1,Lib.pow10Tab.map fun z=>Value.int .u64 z)]
theorem bM3 (n:Int)(h: -9223372036854775808≤n∧n≤9223372036854775807):mM Tryz.prog 77 tabs [.int .i64 n,.int .i64 10] (fun v=>v= .str (numW n)):=
  aW3 (by kernel_rfl) aI9 (List.mem_cons_self) (fun w hw=>Any.strconv_FormatInt_10 cL9 n h.1 h.2 w hw)
end Go.Proofs.YtlldglbooaefhaaGreatDoor
namespace Go.Proofs.YtlldglbooaefhaaGreatDoor
open Go Go.Hl Go.Pl
set_option maxRecDepth 10000
set_option maxHeartbeats 16000000
theorem yF (n:Int)(hn: -9223372036854775808≤n∧n≤9223372036854775807):mM Tryz.prog 51 tabs [.int .i64 n] (fun v=>v= .str (numW n)):=by
 refine cI (args:=[.c (.int .i64 n)]) Tryz.func51 rfl (by kernel_rfl) (gB tabs [.int .i64 n]) (Nat.le_of_ble_eq_true rfl) ?_;refine R0 ?_;refine aB fun K hK=>Rg ?_;refine S0 ?_;refine HS rfl rfl fun K' hK'=>T5 ?_;refine fJ (args:=[_,_]) 0 (bM3 n hn) (gK _ 0) (by simp) ⟨rfl,rfl,rfl,rfl⟩ ?_;rintro u rfl;refine AX (hK' _ _ ?_);clear hK' K';refine S0 ?_;refine T2 (hK _ _ _ ?_);clear hK K;refine aE (RT Tryz.results51 ?_);exact dX [] (.str _) rfl (gK _ 0) (by simp) rfl
def cQ8 (n:Int):Prop:= -9223372036854775808≤n∧n≤9223372036854775807
theorem bZ0 (q:Rq)(hn:cQ8 q.n)(hm:cQ8 q.m):mM Tryz.prog 78 tabs [q.cv] (fun v=>v=lsC (wlR q)):=by
 refine cI (args:=[.c q.cv]) Tryz.func78 rfl (by kernel_rfl) (gB tabs [q.cv]) (Nat.le_of_ble_eq_true rfl) ?_;unfold fM;refine R0 ?_;refine aB fun K hK=>Rg ?_;iterate 2 refine S0 ?_
 refine HS rfl rfl fun K' hK'=>T5 ?_;refine fJ (args:=[_]) 0 (yF q.n hn) rfl (by simp) ⟨rfl,rfl,rfl,rfl⟩ ?_;rintro u rfl;refine AX (hK' _ _ ?_);clear hK' K';refine S0 ?_;refine T2 (hK _ _ _ ?_);clear hK K;refine aB fun K hK=>?_;refine R0 ?_;refine aN ?_;refine R0 ?_;refine aG (b:=(q.k==1)) rfl (fun hb=>?_) (fun hb=>?_)
 ·
  have hk:q.k=1:=by simpa using hb
  clear hb;refine R0 ?_;refine aE (RT Tryz.results78 ?_);exact dX [45] (lsC (wlR q)) (by rw[show wlR q=[bM,numW q.n]from by simp[wlR, *]];simp[lsC,HV.close,fob_at,upd_at,HV.norm,HV.toC,HV.closeL,HV.toCL,CV.denil];rfl) rfl (by simp) rfl
 have hk1: ¬q.k=1:=by simpa using hb
 clear hb;refine R0 ?_;refine aG (b:=(q.k==2)) rfl (fun hb=>?_) (fun hb=>?_)
 ·
  have hk:q.k=2:=by simpa using hb
  clear hb;refine aB fun K hK=>Rg ?_;iterate 4 refine S0 ?_
  refine T2 (hK _ _ _ ?_);clear hK K;refine aE (RT Tryz.results78 ?_);exact dX [57] (lsC (wlR q)) (by rw[show wlR q=[bJ,q.t]from by simp[wlR, *]];simp[lsC,HV.close,fob_at,upd_at,HV.norm,HV.toC,HV.closeL,HV.toCL,CV.denil];rfl) rfl (by simp) rfl
 have hk2: ¬q.k=2:=by simpa using hb
 clear hb;refine R0 ?_;refine aG (b:=(q.k==3)) rfl (fun hb=>?_) (fun hb=>?_)
 ·
  have hk:q.k=3:=by simpa using hb
  clear hb;refine R0 ?_;refine aE (RT Tryz.results78 ?_);exact dX [61] (lsC (wlR q)) (by rw[show wlR q=[bO,numW q.n]from by simp[wlR, *]];simp[lsC,HV.close,fob_at,upd_at,HV.norm,HV.toC,HV.closeL,HV.toCL,CV.denil];rfl) rfl (by simp) rfl
 have hk3: ¬q.k=3:=by simpa using hb
 clear hb;refine R0 ?_;refine aG (b:=(q.k==4)) rfl (fun hb=>?_) (fun hb=>?_)
 ·
  have hk:q.k=4:=by simpa using hb
  clear hb;refine aB fun K hK=>Rg ?_;iterate 3 refine S0 ?_
  refine HS rfl rfl fun K' hK'=>T5 ?_;refine fJ (args:=[_]) 0 (yF q.m hm) rfl (by simp) ⟨rfl,rfl,rfl,rfl⟩ ?_;rintro u rfl;refine AX (hK' _ _ ?_);clear hK' K';iterate 2 refine S0 ?_
  refine T2 (hK _ _ _ ?_);clear hK K;refine aE (RT Tryz.results78 ?_);exact dX [81] (lsC (wlR q)) (by rw[show wlR q=[bT,numW q.n,numW q.m]from by simp[wlR, *]];simp[lsC,HV.close,fob_at,upd_at,HV.norm,HV.toC,HV.closeL,HV.toCL,CV.denil];rfl) rfl (by simp) rfl
 have hk4: ¬q.k=4:=by simpa using hb
 clear hb;refine R0 ?_;refine aG (b:=(q.k==5)) rfl (fun hb=>?_) (fun hb=>?_)
 ·
  have hk:q.k=5:=by simpa using hb
  clear hb;refine R0 ?_;refine aE (RT Tryz.results78 ?_);exact dX [77] (lsC (wlR q)) (by rw[show wlR q=[cC,numW q.n]from by simp[wlR, *]];simp[lsC,HV.close,fob_at,upd_at,HV.norm,HV.toC,HV.closeL,HV.toCL,CV.denil];rfl) rfl (by simp) rfl
 have hk5: ¬q.k=5:=by simpa using hb
 clear hb;refine R0 ?_;refine aG (b:=(q.k==6)) rfl (fun hb=>?_) (fun hb=>?_)
 ·
  have hk:q.k=6:=by simpa using hb
  clear hb;refine R0 ?_;refine aE (RT Tryz.results78 ?_);exact dX [85] (lsC (wlR q)) (by rw[show wlR q=[cO,numW q.n]from by simp[wlR, *]];simp[lsC,HV.close,fob_at,upd_at,HV.norm,HV.toC,HV.closeL,HV.toCL,CV.denil];rfl) rfl (by simp) rfl
 have hk6: ¬q.k=6:=by simpa using hb
 clear hb;refine R0 ?_;refine aG (b:=(q.k==7)) rfl (fun hb=>?_) (fun hb=>?_)
 ·
  have hk:q.k=7:=by simpa using hb
  clear hb;refine R0 ?_;refine aE (RT Tryz.results78 ?_);exact dX [93] (lsC (wlR q)) (by rw[show wlR q=[cR,numW q.n]from by simp[wlR, *]];simp[lsC,HV.close,fob_at,upd_at,HV.norm,HV.toC,HV.closeL,HV.toCL,CV.denil];rfl) rfl (by simp) rfl
 have hk7: ¬q.k=7:=by simpa using hb
 clear hb;refine aJ ?_;refine T0 (hK _ _ _ ?_);clear hK K;refine R0 ?_;refine aE (RT Tryz.results78 ?_);exact dX [89] (lsC (wlR q)) (by rw[show wlR q=[cA]from by simp[wlR, *]];simp[lsC,HV.close,fob_at,upd_at,HV.norm,HV.toC,HV.closeL,HV.toCL,CV.denil];rfl) rfl (by simp) rfl
end Go.Proofs.YtlldglbooaefhaaGreatDoor
