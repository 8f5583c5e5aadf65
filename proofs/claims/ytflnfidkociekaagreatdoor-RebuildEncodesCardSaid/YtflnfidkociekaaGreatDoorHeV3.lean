/- Part of a proof: walks of functions of the program, by contracts, and the rules they use. By an AI agent. -/
import Derived.Test.YtflnfidkociekaaGreatDoorHeU1
import Derived.Test.YtflnfidkociekaaGreatDoorHlIb
import Derived.Test.YtflnfidkociekaaGreatDoorHeFm
import Derived.Test.YtflnfidkociekaaGreatDoorHlTab
set_option linter.unusedSimpArgs false
set_option linter.unusedVariables false
set_option linter.defProp false
namespace Go.Pl
open Go Go.Hl
def bD (c:UInt8):List UInt8→List (List UInt8)
  |[]=>[[]]
  |b::l=>if b=c then []::bD c l else match bD c l with
    |x::xs=>(b::x)::xs
    |[]=>[[b]]
theorem cJ (c:UInt8)(l:List UInt8):bD c l≠[]:=by
  cases l with
  |nil=>simp[bD]
  |cons b l=>grind[bD]
theorem lX (c:UInt8): ∀l:List UInt8,match l.findIdx? (· ==c)with
    |some i=>i<l.length∧bD c l=l.take i::bD c (l.drop (i+1))
    |none=>bD c l=[l]
  |[]=>rfl
  |b::l=>by
    have ih:=lX c l;rw[List.findIdx?_cons];by_cases h:b=c
    · grind[bD]
    · have hb:(b==c)=false:=by simpa using h
      simp only[hb,Bool.false_eq_true,if_false];cases hf:l.findIdx? (· ==c)with
      |none=>
        simp_all[Option.map_none,bD,if_neg]
      |some i=>
        simp_all[Option.map_some,bD,if_neg,List.length_cons,List.take_succ_cons,List.drop_succ_cons,trivial]
variable {c:UInt8}
theorem nG {l:List UInt8}(h:dO l c<0):bD c l=[l]:=by
  have:=lX c l;grind[dO]
theorem eW {l:List UInt8}(h: ¬dO l c<0): ∃i:Nat,dO l c=(i:Int)∧i<l.length∧bD c l=l.take i::bD c (l.drop (i+1)):=by
  have:=lX c l;unfold dO at h⊢;grind
theorem dK (c:UInt8): ∀l:List UInt8,(bD c l).length≤l.length+1
  |[]=>by simp[bD]
  |b::l=>by
    have ih:=dK c l;grind[bD,List.length_cons]
theorem jD (c:UInt8): ∀(l:List UInt8),∀p∈bD c l,p.length≤l.length
  |[],p,hp=>by grind[bD]
  |b::l,p,hp=>by
    have ih:=jD c l;unfold bD at hp;split at hp
    · grind
    · split at hp
      · grind
      grind
def valH (c:UInt8):Nat:=if 48≤c.toNat∧c.toNat≤57 then c.toNat-48 else if 65≤c.toNat∧c.toNat≤70 then c.toNat-55 else 16
theorem aG0 (c:UInt8):valH c≤16:=by grind[valH]
def byteH (x y:UInt8):UInt8:=UInt8.ofNat (16*valH x+valH y)
def okH (x y:UInt8):Bool:=decide (valH x<16)&&decide (valH y<16)&&!cF (byteH x y)
def unB :List UInt8→Option aU
  |[]=>some []
  |c::l=>if cF c then(unB l).map (c::·)else if c=37 then match l with
      |x::y::l'=>if okH x y then(unB l').map (byteH x y::·)else none
      |_=>none
    else none
def unW (s:aU):Option aU:=if s=[126]then some []else if s=[]then none else unB s
variable {l:aU}
theorem kX {c:UInt8}(h:cF c=true):unB (c::l)=(unB l).map (c::·):=by
  rw[unB.eq_def];grind
theorem qB {c:UInt8}(h:cF c=false)(h1:c≠37∨l.length<2):unB (c::l)=none:=by
  rw[unB.eq_def];grind
theorem vZ {x y:UInt8}(h:okH x y=true):unB (37::x::y::l)=(unB l).map (byteH x y::·):=by
  rw[unB.eq_def];simp_all[cF,Bool.false_eq_true,if_false,if_true]
theorem pL {x y:UInt8}(h:okH x y=false):unB (37::x::y::l)=none:=by simp_all[unB.eq_def,cF,Bool.false_eq_true,if_false,if_true]
theorem bE2 {s:aU}{w:aU}(hs:s≠[])(h:unB s=some w):w≠[]:=by
  cases s with
  |nil=>grind
  |cons c l=>
    by_cases hp:cF c=true
    · rw[kX hp,Option.map_eq_some_iff]at h
      grind
    · have hp:cF c=false:=by simpa using hp
      rw[unB.eq_def]at h;simp only[hp,Bool.false_eq_true,if_false]at h;split at h
      · split at h
        · split at h
          · rw[Option.map_eq_some_iff]at h;grind
          grind
        grind
      grind
def aZ2 :List UInt8:=[48,49,50,51,52,53,54,55,56,57,65,66,67,68,69,70]
set_option maxRecDepth 20000 in
theorem nH (c:UInt8):dO aZ2 c=if valH c<16 then(valH c:Int)else-1:=by
  have h: ∀n:Fin 256,dO aZ2 (UInt8.ofNat n.1)=if valH (UInt8.ofNat n.1)<16 then(valH (UInt8.ofNat n.1):Int)else-1:=by decide
  have:=h ⟨c.toNat,c.toNat_lt⟩;simp_all
theorem oO {x y:UInt8}(hx:valH x<16)(hy:valH y<16):(byteH x y).toNat=16*valH x+valH y:=by grind[byteH,UInt8.toNat_ofNat']
def UnSt (s:aU)(i:Nat)(out:aU):Prop:=i≤s.length∧unB s=(unB (s.drop i)).map (out++·)∧(out=[]→i=0)∧out.length≤i
section
variable {s:aU}{i:Nat}{out:aU}
theorem UnSt.init (s:aU):UnSt s 0 []:=⟨Nat.zero_le _,by simp,fun _=>rfl,Nat.le_refl _⟩
theorem UnSt.plain (h:UnSt s i out)(hi:i<s.length)(hp:cF s[i]=true):UnSt s (i+1) (out++[s[i]]):=by
  obtain⟨_,h2,_,h4⟩:=h;refine⟨hi,?_,by simp,by grind⟩;rw[h2,List.drop_eq_getElem_cons hi,kX hp,Option.map_map];congr 1;grind
theorem UnSt.bad1 (h:UnSt s i out)(hi:i<s.length)(hp:cF s[i]=false)(h1:s[i]≠37∨s.length≤i+2):unB s=none:=by
  rw[h.2.1,List.drop_eq_getElem_cons hi,qB hp (h1.imp id fun h=>by grind)];rfl
theorem bB7 {s:aU}{i:Nat}(hi:i+2<s.length):s.drop i=s[i]::s[i+1]::s[i+2]::s.drop (i+3):=by
  rw[List.drop_eq_getElem_cons (show i<s.length by omega),List.drop_eq_getElem_cons (show i+1<s.length by omega),List.drop_eq_getElem_cons hi]
theorem UnSt.esc (h:UnSt s i out)(hi:i+2<s.length)(h37:s[i]=37)(hok:okH s[i+1] s[i+2]=true):UnSt s (i+3) (out++[byteH s[i+1] s[i+2]]):=by
  obtain⟨_,h2,_,h4⟩:=h;refine⟨hi,?_,by simp,by simp;omega⟩;rw[h2,bB7 hi,h37,vZ hok,Option.map_map];congr 1;funext l;simp
theorem UnSt.bad2 (h:UnSt s i out)(hi:i+2<s.length)(h37:s[i]=37)(hok:okH s[i+1] s[i+2]=false):unB s=none:=by
  rw[h.2.1,bB7 hi,h37,pL hok];rfl
theorem eN (h:unB s=none)(h1:s≠[126]):unW s=none:=by simp_all[unW,if_neg]
theorem UnSt.fin (h:UnSt s i out)(hi:i=s.length)(h1:s≠[126]):unW s=if out=[]then none else some out:=by
  subst hi;obtain⟨_,h2,h3,h4⟩:=h;rw[List.drop_length]at h2;unfold unW;rw[if_neg h1];by_cases ho:out=[]
  · grind
  · have hs:s≠[]:=by
      rintro rfl;simp only[List.length_nil,Nat.le_zero]at h4;exact ho (List.eq_nil_of_length_eq_zero h4)
    simp_all[if_neg,unB]
end
def CutR (l:List UInt8)(c:UInt8)(li re:List UInt8)(fd:Bool):Prop:=
  (fd=false∧dO l c<0∧li=l∧re=[])∨(fd=true∧ ∃i:Nat,dO l c=(i:Int)∧i<l.length∧li=l.take i∧re=l.drop (i+1))
def unL (r:aU):Option (List aU):=(bD 32 r).mapM unW
def unR (r:aU):Option (List aU):=match unL r with|some ws=>if okL ws then some ws else none|none=>none
def fF (b:aU):Option (List (List aU)):=
  if b=[]then some []else if(bD 10 b).getLast (cJ 10 b)=[]then(bD 10 b).dropLast.mapM unR else none
variable {li re:aU}
theorem yF (hc:CutR l 10 li re true):fF l=(unR li).bind fun ws=>(fF re).map (ws::·):=by
  rcases hc with⟨h,_⟩|⟨_,i,h1,h2,rfl,rfl⟩
  · cases h
  · obtain⟨i',h3,_,hsp⟩:=eW (l:=l) (c:=10) (by omega)
    have:i'=i:=by omega
    subst this;have hne:l≠[]:=by rintro rfl;simp at h2
    have hd:fF l=if(bD 10 (l.drop (i'+1))).getLast (cJ 10 _)=[]then(l.take i'::(bD 10 (l.drop (i'+1))).dropLast).mapM unR else none:=by
      unfold fF;rw[if_neg hne];simp only[hsp];grind[List.getLast_cons,cJ,List.dropLast_cons_of_ne_nil]
    rw[hd];have he:fF (l.drop (i'+1))=if(bD 10 (l.drop (i'+1))).getLast (cJ 10 _)=[]then(bD 10 (l.drop (i'+1))).dropLast.mapM unR else none:=by
      unfold fF;split
      · rename_i h
        rw[h];rfl
      · rfl
    rw[he];split
    · rw[List.mapM_cons]
      cases unR (l.take i')with
      |none=>rfl
      |some ws=>cases(bD 10 (l.drop (i'+1))).dropLast.mapM unR<;>rfl
    simp_all
theorem rZ (hc:CutR l 10 li re false)(hne:l≠[]):fF l=none:=by
  rcases hc with⟨_,h,_⟩|⟨h,_⟩
  all_goals simp_all[fF,if_neg,nG,List.getLast_singleton]
variable {fd:Bool}
theorem aT1 (hc:CutR l 10 li re fd)(hne:l≠[])(h:unR li=none):fF l=none:=by
  cases fd with
  |false=>exact rZ hc hne
  |true=>rw[yF hc,h];rfl
theorem CutR.lt (hc:CutR l c li re fd)(hne:l≠[]):re.length<l.length∧li.length≤l.length:=by
  have:0<l.length:=List.length_pos_iff.2 hne;rcases hc with⟨_,_,rfl,rfl⟩|⟨_,i,_,h,rfl,rfl⟩
  all_goals grind
def wsT (r:aU)(i:Nat):List aU:=((bD 32 r).take i).map fun p=>(unW p).getD []
def yG (r:aU)(i:Nat):Prop:= ∀p∈(bD 32 r).take i,(unW p).isSome=true
variable {i:Nat}{r:aU}
theorem yH (h:i<(bD 32 r).length):wsT r (i+1)=wsT r i++[(unW (bD 32 r)[i]).getD []]:=by
  simp only[wsT,List.take_succ_eq_append_getElem h,List.map_append,List.map_cons,List.map_nil]
theorem lY (h:i≤(bD 32 r).length):(wsT r i).length=i:=by grind[wsT,List.length_map,List.length_take]
theorem uH (h:i<(bD 32 r).length)(h1:yG r i)(h2:(unW (bD 32 r)[i]).isSome=true):yG r (i+1):=by
  intro p hp;rw[List.take_succ_eq_append_getElem h,List.mem_append,List.mem_singleton]at hp;rcases hp with hp|rfl
  · exact h1 p hp
  · exact h2
theorem kY {α β:Type}{f:α→Option β}: ∀{l:List α} {x:α},x∈l→f x=none→l.mapM f=none
  |a::l,x,hx,h=>by
    rw[List.mapM_cons];rcases List.mem_cons.1 hx with rfl|hx
    · grind
    · rw[kY hx h]
      simp_all
theorem nI {α β:Type}{f:α→Option β}(d:β): ∀{l:List α},(∀x∈l,(f x).isSome=true)→l.mapM f=some (l.map fun x=>(f x).getD d)
  |[],_=>rfl
  |a::l,h=>by
    rw[List.mapM_cons,nI d fun x hx=>h x (List.mem_cons_of_mem _ hx)];grind[Option.isSome_iff_exists,List.mem_cons_self]
theorem aT2 (h:i<(bD 32 r).length)(h2:(unW (bD 32 r)[i]).isSome=false):unR r=none:=by
  unfold unR unL;rw[kY (List.getElem_mem h) (by simpa using h2)]
theorem aZ3 (h:yG r (bD 32 r).length):unR r=if okL (wsT r (bD 32 r).length)then some (wsT r (bD 32 r).length)else none:=by
  unfold yG at h;rw[List.take_length]at h;unfold unR unL;rw[nI [] h];simp only[wsT,List.take_length]
def DecSt (b rest:aU)(ls:List (List aU)):Prop:=fF b=(fF rest).map (ls++·)∧rest.length≤b.length∧ls.length+rest.length≤b.length
theorem DecSt.init (b:aU):DecSt b b []:=⟨by simp,Nat.le_refl _,by simp⟩
variable {ls:List (List aU)}{b rest:aU}
theorem DecSt.bad (h:DecSt b rest ls)(hc:CutR rest 10 li re fd)(hne:rest≠[])(hb:unR li=none):fF b=none:=by
  rw[h.1,aT1 hc hne hb];rfl
theorem DecSt.bad0 (h:DecSt b rest ls)(hc:CutR rest 10 li re false)(hne:rest≠[]):fF b=none:=by
  rw[h.1,rZ hc hne];rfl
theorem DecSt.next (h:DecSt b rest ls)(hc:CutR rest 10 li re true)(hne:rest≠[]){ws:List aU}(hb:unR li=some ws):DecSt b re (ls++[ws]):=by
  have hl:=hc.lt hne;obtain⟨h1,h2,h3⟩:=h;refine⟨?_,by omega,by grind⟩;rw[h1,yF hc,hb];cases fF re with
  |none=>rfl
  |some l=>simp
theorem DecSt.fin (h:DecSt b [] ls):fF b=some ls:=by
  rw[h.1];simp[fF]
def dM (b:aU):Int:=if 262144<b.length then 3 else match fF b with|some ls=>if 1000<ls.length then 2 else 0|none=>2
def fS (b:aU):List (List aU):=if dM b=0 then(fF b).getD []else []
end Go.Pl
namespace Go.Proofs.YtflnfidkociekaaGreatDoor
open Go Go.Hl Go.Pl
set_option maxRecDepth 10000
set_option maxHeartbeats 2000000
theorem wC (v:CV):nth [v] 0=v:=rfl
theorem fC (c:UInt8):(u8 c).denil=u8 c:=rfl
theorem denilL_u8 : ∀bs:List UInt8,CV.denilL (bs.map u8)=bs.map u8
 |[]=>rfl
 |b::bs=>by simp only[List.map_cons,CV.denilL,denilL_u8 bs];rfl
theorem aZ4 (l:List UInt8)(c:UInt8):cL Tryz.prog 93 [.slc (l.map u8),u8 c] (fun v=>v= .int .i64 (dO l c)):=
 bE1 (f:=93) (fn:=Tryz.f93) Tryz.func93 (by kernel_rfl) (by kernel_rfl) (by kernel_rfl) (by kernel_rfl) l c
theorem aT3 (l:List UInt8)(c:UInt8):cL Tryz.prog 96 [.str l,u8 c] (fun v=>v= .int .i64 (dO l c)):=
 aZ1 (f:=96) (fn:=Tryz.f96) Tryz.func96 (by kernel_rfl) (by kernel_rfl) (by kernel_rfl) (by kernel_rfl) l c
theorem bE3 (l:List UInt8)(c:UInt8):cL Tryz.prog 72 [.slc (l.map u8),u8 c] (fun v=>v= .int .i64 (dO l c)):=by
 refine bI Tryz.func72 rfl (by kernel_rfl) (bJ _) (Nat.le_of_ble_eq_true rfl) ?_;refine aD fun K hK=>aC (by kernel_rfl) ?_;simp (maxSteps:=4000000) only[↓sP,sA,tyS,simprocAttr,aK,aG,aN,aI,aF,aL,aH,aM,aO,aJ,aP,aR];repeat refine AI ?_
 refine hK _ _ _ ?_;clear hK K;refine aD fun K hK=>aC (by kernel_rfl) ?_;simp only[sR,simprocAttr];iterate 2
  (refine aB (g:=none) rfl rfl fun K' hK'=>?_;simp only[sH,↓sP,sA,tyS,simprocAttr,aK,aG,aN,aI,aF,aL,aH,aM,aO,aJ,aP,aR,denilL_u8,fC];(repeat refine AI ?_);refine hK' _ _ ?_;clear hK' K')
 refine aB (g:=none) rfl rfl fun K' hK'=>?_;simp (maxSteps:=4000000) only[sH,↓sP,sA,tyS,simprocAttr,aK,aG,aN,aI,aF,aL,aH,aM,aO,aJ,aP,aR,denilL_u8,fC];refine bH (args:=[_,_]) (aZ4 l c) ⟨rfl,rfl,rfl,rfl⟩ ?_;rintro u rfl;repeat refine AI ?_
 refine hK' _ _ ?_;clear hK' K';refine aB (g:=none) rfl rfl fun K' hK'=>?_;simp (maxSteps:=4000000) only[sH,↓sP,sA,tyS,simprocAttr,aK,aG,aN,aI,aF,aL,aH,aM,aO,aJ,aP,aR,denilL_u8,fC];repeat refine AI ?_
 refine hK' _ _ ?_;clear hK' K';simp only[sE,↓reduceIte,simprocAttr,aK,aG,aN,aI,aF,aL,aH,aM,aO,aJ,aP,aR];repeat refine AI ?_
 refine hK _ _ _ ?_;clear hK K;refine aT ?_;simp (maxSteps:=4000000) only[bA,Tryz.results72,aY,aZ,aX,↓sP,sA,tyS,simprocAttr,aK,aG,aN,aI,aF,aL,aH,aM,aO,aJ,aP,aR];exact bF [] (.int .i64 (dO l c)) rfl rfl
theorem aT4 (l:List UInt8)(c:UInt8):cL Tryz.prog 79 [.str l,u8 c] (fun v=>v= .int .i64 (dO l c)):=by
 refine bI Tryz.func79 rfl (by kernel_rfl) (bJ _) (Nat.le_of_ble_eq_true rfl) ?_;refine aD fun K hK=>aC (by kernel_rfl) ?_;simp (maxSteps:=4000000) only[↓sP,sA,tyS,simprocAttr,aK,aG,aN,aI,aF,aL,aH,aM,aO,aJ,aP,aR];repeat refine AI ?_
 refine hK _ _ _ ?_;clear hK K;refine aD fun K hK=>aC (by kernel_rfl) ?_;simp only[sR,simprocAttr];iterate 2
  (refine aB (g:=none) rfl rfl fun K' hK'=>?_;simp only[sH,↓sP,sA,tyS,simprocAttr,aK,aG,aN,aI,aF,aL,aH,aM,aO,aJ,aP,aR,denilL_u8,fC];(repeat refine AI ?_);refine hK' _ _ ?_;clear hK' K')
 refine aB (g:=none) rfl rfl fun K' hK'=>?_;simp (maxSteps:=4000000) only[sH,↓sP,sA,tyS,simprocAttr,aK,aG,aN,aI,aF,aL,aH,aM,aO,aJ,aP,aR,denilL_u8,fC];refine bH (args:=[_,_]) (aT3 l c) ⟨rfl,rfl,rfl,rfl⟩ ?_;rintro u rfl;repeat refine AI ?_
 refine hK' _ _ ?_;clear hK' K';refine aB (g:=none) rfl rfl fun K' hK'=>?_;simp (maxSteps:=4000000) only[sH,↓sP,sA,tyS,simprocAttr,aK,aG,aN,aI,aF,aL,aH,aM,aO,aJ,aP,aR,denilL_u8,fC];repeat refine AI ?_
 refine hK' _ _ ?_;clear hK' K';simp only[sE,↓reduceIte,simprocAttr,aK,aG,aN,aI,aF,aL,aH,aM,aO,aJ,aP,aR];repeat refine AI ?_
 refine hK _ _ _ ?_;clear hK K;refine aT ?_;simp (maxSteps:=4000000) only[bA,Tryz.results79,aY,aZ,aX,↓sP,sA,tyS,simprocAttr,aK,aG,aN,aI,aF,aL,aH,aM,aO,aJ,aP,aR];exact bF [] (.int .i64 (dO l c)) rfl rfl
theorem nJ (l:List UInt8)(c:UInt8):cL Tryz.prog 56 [.str l,u8 c] (fun v=>v= .int .i64 (dO l c)):=by
 refine bI Tryz.func56 rfl (by kernel_rfl) (bJ _) (Nat.le_of_ble_eq_true rfl) ?_;refine aD fun K hK=>aC (by kernel_rfl) ?_;simp (maxSteps:=4000000) only[↓sP,sA,tyS,simprocAttr,aK,aG,aN,aI,aF,aL,aH,aM,aO,aJ,aP,aR];repeat refine AI ?_
 refine hK _ _ _ ?_;clear hK K;refine aD fun K hK=>aC (by kernel_rfl) ?_;simp only[sR,simprocAttr];iterate 2
  (refine aB (g:=none) rfl rfl fun K' hK'=>?_;simp only[sH,↓sP,sA,tyS,simprocAttr,aK,aG,aN,aI,aF,aL,aH,aM,aO,aJ,aP,aR,denilL_u8,fC];(repeat refine AI ?_);refine hK' _ _ ?_;clear hK' K')
 refine aB (g:=none) rfl rfl fun K' hK'=>?_;simp (maxSteps:=4000000) only[sH,↓sP,sA,tyS,simprocAttr,aK,aG,aN,aI,aF,aL,aH,aM,aO,aJ,aP,aR,denilL_u8,fC];refine bH (args:=[_,_]) (aT4 l c) ⟨rfl,rfl,rfl,rfl⟩ ?_;rintro u rfl;repeat refine AI ?_
 refine hK' _ _ ?_;clear hK' K';refine aB (g:=none) rfl rfl fun K' hK'=>?_;simp (maxSteps:=4000000) only[sH,↓sP,sA,tyS,simprocAttr,aK,aG,aN,aI,aF,aL,aH,aM,aO,aJ,aP,aR,denilL_u8,fC];repeat refine AI ?_
 refine hK' _ _ ?_;clear hK' K';simp only[sE,↓reduceIte,simprocAttr,aK,aG,aN,aI,aF,aL,aH,aM,aO,aJ,aP,aR];repeat refine AI ?_
 refine hK _ _ _ ?_;clear hK K;refine aT ?_;simp (maxSteps:=4000000) only[bA,Tryz.results56,aY,aZ,aX,↓sP,sA,tyS,simprocAttr,aK,aG,aN,aI,aF,aL,aH,aM,aO,aJ,aP,aR];exact bF [] (.int .i64 (dO l c)) rfl rfl
theorem uI (l:List UInt8)(c:UInt8):cL Tryz.prog 54 [.slc (l.map u8),.slc [u8 c]] (fun v=>v= .int .i64 (dO l c)):=by
 refine bI Tryz.func54 rfl (by kernel_rfl) (bJ _) (Nat.le_of_ble_eq_true rfl) ?_;refine aD fun K hK=>aC (by kernel_rfl) ?_;simp (maxSteps:=4000000) only[↓sP,sA,tyS,simprocAttr,aK,aG,aN,aI,aF,aL,aH,aM,aO,aJ,aP,aR];repeat refine AI ?_
 refine hK _ _ _ ?_;clear hK K;refine aD fun K hK=>aC (by kernel_rfl) ?_;simp (maxSteps:=4000000) only[↓sP,sA,tyS,simprocAttr,aK,aG,aN,aI,aF,aL,aH,aM,aO,aJ,aP,aR];repeat refine AI ?_
 refine hK _ _ _ ?_;clear hK K;refine aD fun K hK=>?_;refine bE ?_;refine aD fun K hK=>aC (by kernel_rfl) ?_;simp (maxSteps:=4000000) only[↓sP,sA,tyS,simprocAttr,aK,aG,aN,aI,aF,aL,aH,aM,aO,aJ,aP,aR];repeat refine AI ?_
 refine hK _ _ _ ?_;clear hK K;refine aQ (b:=(1:Int)==0) rfl (fun hb=>?_) (fun hb=>?_)
 · exact absurd hb (by decide)
 refine aD fun K hK=>aC (by kernel_rfl) ?_;simp (maxSteps:=4000000) only[↓sP,sA,tyS,simprocAttr,aK,aG,aN,aI,aF,aL,aH,aM,aO,aJ,aP,aR];repeat refine AI ?_
 refine hK _ _ _ ?_;clear hK K;refine aQ (b:=(1:Int)==1) rfl (fun hb=>?_) (fun hb=>?_)
 ·
  refine aD fun K hK=>aC (by kernel_rfl) ?_;simp only[sR,simprocAttr];iterate 4
   (refine aB (g:=none) rfl rfl fun K' hK'=>?_;simp only[sH,↓sP,sA,tyS,simprocAttr,aK,aG,aN,aI,aF,aL,aH,aM,aO,aJ,aP,aR,u8,wC,denilL_u8];(repeat refine AI ?_);refine hK' _ _ ?_;clear hK' K')
  refine aB (g:=none) rfl rfl fun K' hK'=>?_;simp (maxSteps:=4000000) only[sH,↓sP,sA,tyS,simprocAttr,aK,aG,aN,aI,aF,aL,aH,aM,aO,aJ,aP,aR,u8,wC,denilL_u8];refine bH (args:=[_,_]) (bE3 l c) ⟨rfl,rfl,rfl,rfl⟩ ?_;rintro u rfl;repeat refine AI ?_
  refine hK' _ _ ?_;clear hK' K';refine aB (g:=none) rfl rfl fun K' hK'=>?_;simp (maxSteps:=4000000) only[sH,↓sP,sA,tyS,simprocAttr,aK,aG,aN,aI,aF,aL,aH,aM,aO,aJ,aP,aR,u8,wC,denilL_u8];repeat refine AI ?_
  refine hK' _ _ ?_;clear hK' K';simp only[sE,↓reduceIte,simprocAttr,aK,aG,aN,aI,aF,aL,aH,aM,aO,aJ,aP,aR];repeat refine AI ?_
  refine hK _ _ _ ?_;clear hK K;refine aT ?_;simp (maxSteps:=4000000) only[bA,Tryz.results54,aY,aZ,aX,↓sP,sA,tyS,simprocAttr,aK,aG,aN,aI,aF,aL,aH,aM,aO,aJ,aP,aR];exact bF [] (.int .i64 (dO l c)) rfl rfl
 exact absurd hb (by decide)
theorem aZ5 (l:List UInt8)(c:UInt8)(hl:l.length<2^40):aR2 Tryz.prog 36 [.slc (l.map u8),.slc [u8 c]] (fun x y f=> ∃(li re:List UInt8) (fd:Bool),x= .slc (li.map u8)∧y= .slc (re.map u8)∧f= .bool fd∧CutR l c li re fd):=by
 refine bI Tryz.func36 rfl (by kernel_rfl) (bJ _) (Nat.le_of_ble_eq_true rfl) ?_;refine aD fun K hK=>aC (by kernel_rfl) ?_;simp (maxSteps:=4000000) only[↓sP,sA,tyS,simprocAttr,aK,aG,aN,aI,aF,aL,aH,aM,aO,aJ,aP,aR];repeat refine AI ?_
 refine hK _ _ _ ?_;clear hK K;refine aD fun K hK=>?_;refine aD fun K hK=>aC (by kernel_rfl) ?_;simp only[sR,simprocAttr];iterate 2
  (refine aB (g:=none) rfl rfl fun K' hK'=>?_;simp only[sH,↓sP,sA,tyS,simprocAttr,aK,aG,aN,aI,aF,aL,aH,aM,aO,aJ,aP,aR,denilL_u8];(repeat refine AI ?_);refine hK' _ _ ?_;clear hK' K')
 refine aB (g:=none) rfl rfl fun K' hK'=>?_;simp (maxSteps:=4000000) only[sH,↓sP,sA,tyS,simprocAttr,aK,aG,aN,aI,aF,aL,aH,aM,aO,aJ,aP,aR,denilL_u8];refine bH (args:=[_,_]) (uI l c) ⟨rfl,rfl,rfl,rfl⟩ ?_;rintro u rfl;repeat refine AI ?_
 refine hK' _ _ ?_;clear hK' K';refine aB (g:=none) rfl rfl fun K' hK'=>?_;simp (maxSteps:=4000000) only[sH,↓sP,sA,tyS,simprocAttr,aK,aG,aN,aI,aF,aL,aH,aM,aO,aJ,aP,aR,denilL_u8];repeat refine AI ?_
 refine hK' _ _ ?_;clear hK' K';simp only[sE,↓reduceIte,simprocAttr,aK,aG,aN,aI,aF,aL,aH,aM,aO,aJ,aP,aR];repeat refine AI ?_
 refine hK _ _ _ ?_;clear hK K;refine aD fun K hK=>aC (by kernel_rfl) ?_;simp (maxSteps:=4000000) only[↓sP,sA,tyS,simprocAttr,aK,aG,aN,aI,aF,aL,aH,aM,aO,aJ,aP,aR];repeat refine AI ?_
 refine hK _ _ _ ?_;clear hK K;refine aQ (b:=decide ((0:Int)≤dO l c)) rfl (fun hb=>?_) (fun hb=>?_)
 ·
  have hn: ¬dO l c<0:=by simp at hb;omega
  obtain⟨i,hi,hil,hsp⟩:=eW hn;have hi':=hi;rw[hi];refine aD fun K hK=>qZ mixed (by kernel_rfl) (by kernel_rfl) (by kernel_rfl) ?_;simp only[sR,simprocAttr];iterate 12
   (refine aB (g:=none) rfl rfl fun K' hK'=>?_;simp only[sH,↓sP,sA,tyS,simprocAttr,aK,aG,aN,aI,aF,aL,aH,aM,aO,aJ,aP,aR,Int.natCast_nonneg,Int.ofNat_le,Int.sub_zero,Nat.sub_zero,List.drop_zero,eC,denilL_u8,List.length_map,show IntKind.i64.wrap ((i:Int)+1)=((i+1:Nat):Int)from by rw[IntWalk.i64_in _ (by omega)];rfl];(repeat refine AI ?_);refine hK' _ _ ?_;clear hK' K')
  simp only[sE,↓reduceIte,simprocAttr,aK,aG,aN,aI,aF,aL,aH,aM,aO,aJ,aP,aR];repeat refine AI ?_
  refine hK _ _ _ ?_;clear hK K;refine aT ?_;simp (maxSteps:=4000000) only[bA,Tryz.results36,aY,aZ,aX,↓sP,sA,tyS,simprocAttr,aK,aG,aN,aI,aF,aL,aH,aM,aO,aJ,aP,aR];refine rN [] (.slc ((l.take i).map u8)) (.slc ((l.drop (i+1)).map u8)) (.bool true) ?_ ⟨_,_,_,rfl,rfl,rfl,.inr ⟨rfl,i,hi,hil,rfl,rfl⟩⟩;simp[HV.close,HV.closeL,HV.norm,HV.toC,HV.toCL,CV.denil,denilL_u8];exact⟨by rw[←List.map_take,denilL_u8],by rw[←List.map_drop,←List.map_take,denilL_u8,List.take_of_length_le (by simp)]⟩
 have hn:dO l c<0:=by simp at hb;omega
 refine aV ?_;simp (maxSteps:=4000000) only[↓sP,sA,tyS,simprocAttr,aK,aG,aN,aI,aF,aL,aH,aM,aO,aJ,aP,aR];repeat refine AI ?_
 refine hK _ _ _ ?_;clear hK K;refine aD fun K hK=>aC (by kernel_rfl) ?_;simp only[sR,simprocAttr];iterate 4
  (refine aB (g:=none) rfl rfl fun K' hK'=>?_;simp only[sH,↓sP,sA,tyS,simprocAttr,aK,aG,aN,aI,aF,aL,aH,aM,aO,aJ,aP,aR];(repeat refine AI ?_);refine hK' _ _ ?_;clear hK' K')
 simp only[sE,↓reduceIte,simprocAttr,aK,aG,aN,aI,aF,aL,aH,aM,aO,aJ,aP,aR];repeat refine AI ?_
 refine hK _ _ _ ?_;clear hK K;refine aT ?_;simp (maxSteps:=4000000) only[bA,Tryz.results36,aY,aZ,aX,↓sP,sA,tyS,simprocAttr,aK,aG,aN,aI,aF,aL,aH,aM,aO,aJ,aP,aR];refine rN [] (.slc (l.map u8)) (.slc []) (.bool false) ?_ ⟨l,[],false,rfl,rfl,rfl,.inl ⟨rfl,hn,rfl,rfl⟩⟩;simp[HV.close,HV.closeL,HV.norm,HV.toC,HV.toCL,CV.denil,denilL_u8]
theorem aZ6 (l:List UInt8)(c:UInt8):aT0 Tryz.prog 55 77 [.slc (l.map u8),.slc [u8 c],.int .i64 0] [(28,.slc [u8 c]),(28,.slc (l.map u8)),(3,.int .i64 0)]:=by
 refine bI Tryz.func55 rfl (by kernel_rfl) (bJ _) (Nat.le_of_ble_eq_true rfl) ?_;refine aD fun K hK=>aC (by kernel_rfl) ?_;simp only[sR,simprocAttr];iterate 4
  (refine aB (g:=none) rfl rfl fun K' hK'=>?_;simp only[sH,↓sP,sA,tyS,simprocAttr,aK,aG,aN,aI,aF,aL,aH,aM,aO,aJ,aP,aR];(repeat refine AI ?_);refine hK' _ _ ?_;clear hK' K')
 simp only[sE,↓reduceIte,simprocAttr,aK,aG,aN,aI,aF,aL,aH,aM,aO,aJ,aP,aR];repeat refine AI ?_
 refine hK _ _ _ ?_;clear hK K;refine aD fun K hK=>aC (by kernel_rfl) ?_;simp (maxSteps:=4000000) only[↓sP,sA,tyS,simprocAttr,aK,aG,aN,aI,aF,aL,aH,aM,aO,aJ,aP,aR];repeat refine AI ?_
 refine hK _ _ _ ?_;clear hK K;refine aT ?_;simp (maxSteps:=4000000) only[bA,Tryz.results55,aY,aZ,aX,↓sP,sA,tyS,simprocAttr,aK,aG,aN,aI,aF,aL,aH,aM,aO,aJ,aP,aR];refine uG (gf:=77) (bs:=[(28,.slc [u8 c]),(28,.slc (l.map u8)),(3,.int .i64 0)]) (ids:=[4,0,8]) rfl (by simp) (by decide) ?_ ?_
 ·
  intro j x hx
  match j,hx with
  |0,hx=>cases hx;rfl
  |1,hx=>cases hx;rfl
  |2,hx=>cases hx;rfl
 intro x hx;simp only[List.mem_cons,List.not_mem_nil,or_false]at hx;rcases hx with rfl|rfl|rfl
 · rfl
 · exact congrArg CV.slc (denilL_u8 l)
 rfl
theorem aL5 (l:List UInt8)(c:UInt8):aT0 Tryz.prog 37 77 [.slc (l.map u8),.slc [u8 c]] [(28,.slc [u8 c]),(28,.slc (l.map u8)),(3,.int .i64 0)]:=by
 refine bI Tryz.func37 rfl (by kernel_rfl) (bJ _) (Nat.le_of_ble_eq_true rfl) ?_;refine aD fun K hK=>aC (by kernel_rfl) ?_;simp (maxSteps:=4000000) only[↓sP,sA,tyS,simprocAttr,aK,aG,aN,aI,aF,aL,aH,aM,aO,aJ,aP,aR];repeat refine AI ?_
 refine hK _ _ _ ?_;clear hK K;refine aD fun K hK=>aC (by kernel_rfl) ?_;simp only[sR,simprocAttr];iterate 2
  (refine aB (g:=none) rfl rfl fun K' hK'=>?_;simp only[sH,↓sP,sA,tyS,simprocAttr,aK,aG,aN,aI,aF,aL,aH,aM,aO,aJ,aP,aR,denilL_u8,nE,fR,List.range',List.map_cons,List.map_nil];(repeat refine AI ?_);refine hK' _ _ ?_;clear hK' K')
 refine aB (g:=none) rfl rfl fun K' hK'=>?_;simp (maxSteps:=4000000) only[sH,↓sP,sA,tyS,simprocAttr,aK,aG,aN,aI,aF,aL,aH,aM,aO,aJ,aP,aR,denilL_u8,nE,fR,List.range',List.map_cons,List.map_nil];refine uF (args:=[_,_,_]) (aZ6 l c) (by simp) ⟨rfl,rfl,rfl,rfl⟩ ?_;repeat refine AI ?_
 refine hK' _ _ ?_;clear hK' K';refine aB (g:=none) rfl rfl fun K' hK'=>?_;simp (maxSteps:=4000000) only[sH,↓sP,sA,tyS,simprocAttr,aK,aG,aN,aI,aF,aL,aH,aM,aO,aJ,aP,aR,denilL_u8,nE,fR,List.range',List.map_cons,List.map_nil];repeat refine AI ?_
 refine hK' _ _ ?_;clear hK' K';simp only[sE,↓reduceIte,simprocAttr,aK,aG,aN,aI,aF,aL,aH,aM,aO,aJ,aP,aR];repeat refine AI ?_
 refine hK _ _ _ ?_;clear hK K;refine aT ?_;simp (maxSteps:=4000000) only[bA,Tryz.results37,aY,aZ,aX,↓sP,sA,tyS,simprocAttr,aK,aG,aN,aI,aF,aL,aH,aM,aO,aJ,aP,aR];refine uG (gf:=77) (bs:=[(28,.slc [u8 c]),(28,.slc (l.map u8)),(3,.int .i64 0)]) (ids:=[12,13,14]) rfl (by simp) (by decide) ?_ ?_
 ·
  intro j x hx
  match j,hx with
  |0,hx=>cases hx;rfl
  |1,hx=>cases hx;rfl
  |2,hx=>cases hx;rfl
 intro x hx;simp only[List.mem_cons,List.not_mem_nil,or_false]at hx;rcases hx with rfl|rfl|rfl
 · rfl
 · exact congrArg CV.slc (denilL_u8 l)
 rfl
theorem bB8 {α:Type}(l:List (List UInt8))(j:Nat)(p:List UInt8)(r:List (List UInt8))(h:l.drop j=p::r): ∃hj:j<(l.map fun p=>[CV.slc (p.map u8)]).length,(l.map fun p=>[CV.slc (p.map u8)])[j]=[CV.slc (p.map u8)]∧l.drop (j+1)=r:=by
 have hj:j<l.length:=by
  rcases Nat.lt_or_ge j l.length with h'|h'
  · exact h'
  rw[List.drop_eq_nil_of_le h']at h;cases h
 have h1:=List.drop_eq_getElem_cons hj;rw[h1]at h;cases h;exact⟨by simpa using hj,by simp,rfl⟩
theorem aB6 (l:List UInt8)(c:UInt8)(hl:l.length<2^40):aB4 Tryz.prog 77 [(28,.slc [u8 c]),(28,.slc (l.map u8)),(3,.int .i64 0)] ((bD c l).map fun p=>[.slc (p.map u8)]):=by
 refine aL4 Tryz.func77 rfl (by kernel_rfl) (Nat.le_of_ble_eq_true rfl) rfl fun L J hS hY=>?_;have e0:iP [(28,CV.slc [u8 c]),(28,.slc (l.map u8)),(3,.int .i64 0)]=fob [(0,.box 28 (.c (.slc [u8 c]))),(1,.box 28 (.c (.slc (l.map u8)))),(2,.box 3 (.c (.int .i64 0)))]:=by
  funext i
  match i with
  |0=>rfl
  |1=>rfl
  |2=>rfl
  |i+3=>simp[iP,fob,upd]
 have e1:fR (List.range [((28:Nat),CV.slc [u8 c]),(28,.slc (l.map u8)),(3,.int .i64 0)].length)=[.ptr 0 0,.ptr 1 0,.ptr 2 0]:=rfl;rw[e0,e1];refine gC fun K hK=>?_;refine gC fun K1 hK1=>rU hS rfl (aC (by kernel_rfl) ?_);simp only[sR,simprocAttr];iterate 3
  (refine aB (g:=none) rfl rfl fun K' hK'=>?_;simp only[sH,↓sP,sA,tyS,simprocAttr,aK,aG,aN,aI,aF,aL,aH,aM,aO,aJ,aP,aR];(repeat refine AI ?_);refine hK' _ _ ?_;clear hK' K')
 simp only[sE,↓reduceIte,simprocAttr,aK,aG,aN,aI,aF,aL,aH,aM,aO,aJ,aP,aR];refine hK1 _ _ _ _ _ ?_;clear hK1 K1;refine nD (b:=false) rfl (fun hb=>by cases hb) (fun _=>?_);refine rV ?_;simp only[sE,↓reduceIte,simprocAttr,aK,aG,aN,aI,aF,aL,aH,aM,aO,aJ,aP,aR];refine hK _ _ _ _ _ ?_;clear hK K;refine gC fun K hK=>?_;refine uB ?_;refine aS7 (α:={y:Nat×List UInt8//(bD c l).drop y.1=bD c y.2∧y.2.length≤l.length}) hS (fun y=>(fin [(0,.opq (.func (.yield L) #[] #[])),(1,.ptr 0 0),(2,.ptr 1 0),(3,.ptr 2 0)],fob [(0,.box 28 (.c (.slc [u8 c]))),(1,.box 28 (.c (.slc (y.1.2.map u8)))),(2,.box 3 (.c (.int .i64 0)))])) (fun y=>y.1.1) 100 (fun y=>y.1.2.length) ⟨(0,l),rfl,Nat.le_refl _⟩ rfl (aS (by omega) (by simp[bK,fin_at,finA_at,upd_at,HV.men,HV.menL,HV.norm,HV.toC,HV.toCL]) (by simp[bM,fob_at,upd_at,none0_at,bY,HO.men,HV.men,HV.menL,HV.norm,HV.toC,HV.toCL])) rfl ?_;rintro⟨⟨j,rest⟩,hsp,hle⟩;simp only at hsp hle;refine uB ?_;refine gC fun K1 hK1=>rU hS rfl (aC (by kernel_rfl) ?_);simp only[sR,simprocAttr];iterate 2
  (refine aB (g:=none) rfl rfl fun K' hK'=>?_;simp only[sH,↓sP,sA,tyS,simprocAttr,aK,aG,aN,aI,aF,aL,aH,aM,aO,aJ,aP,aR];(repeat refine AI ?_);refine hK' _ _ ?_;clear hK' K')
 refine aB (g:=none) rfl rfl fun K' hK'=>?_;simp (maxSteps:=4000000) only[sH,↓sP,sA,tyS,simprocAttr,aK,aG,aN,aI,aF,aL,aH,aM,aO,aJ,aP,aR,denilL_u8];refine bH (args:=[_,_]) (uI rest c) ⟨rfl,rfl,rfl,rfl⟩ ?_;rintro u rfl;repeat refine AI ?_
 refine hK' _ _ ?_;clear hK' K';refine aB (g:=none) rfl rfl fun K' hK'=>?_;simp (maxSteps:=4000000) only[sH,↓sP,sA,tyS,simprocAttr,aK,aG,aN,aI,aF,aL,aH,aM,aO,aJ,aP,aR];repeat refine AI ?_
 refine hK' _ _ ?_;clear hK' K';simp only[sE,↓reduceIte,simprocAttr,aK,aG,aN,aI,aF,aL,aH,aM,aO,aJ,aP,aR];refine hK1 _ _ _ _ _ ?_;clear hK1 K1;refine gC fun K1 hK1=>?_;refine gC fun K2 hK2=>rU hS rfl (aC (by kernel_rfl) ?_);simp only[sR,simprocAttr];iterate 2
  (refine aB (g:=none) rfl rfl fun K' hK'=>?_;simp only[sH,↓sP,sA,tyS,simprocAttr,aK,aG,aN,aI,aF,aL,aH,aM,aO,aJ,aP,aR];(repeat refine AI ?_);refine hK' _ _ ?_;clear hK' K')
 simp only[sE,↓reduceIte,simprocAttr,aK,aG,aN,aI,aF,aL,aH,aM,aO,aJ,aP,aR];refine hK2 _ _ _ _ _ ?_;clear hK2 K2;refine nD (b:=decide (dO rest c<0)) rfl (fun hb=>?_) (fun hb=>?_)
 ·
  have hn:dO rest c<0:=by simpa using hb
  rw[nG hn]at hsp;obtain⟨hj,hx,hd⟩:=bB8 (α:=Nat) _ _ _ _ hsp;refine aS6 ?_;simp only[sE,↓reduceIte,simprocAttr,aK,aG,aN,aI,aF,aL,aH,aM,aO,aJ,aP,aR];clear hK1 K1;refine hK _ _ _ _ _ ?_;clear hK K;have htk:List.take rest.length (rest.map u8)=rest.map u8:=List.take_of_length_le (by simp);refine uD (l:=L) 7 hS hY rfl (by kernel_rfl) (by decide) ?_;simp only[sR,List.range',simprocAttr];iterate 6
   (refine aB (g:=none) rfl rfl fun K' hK'=>?_;simp only[sH,↓sP,sA,tyS,simprocAttr,aK,aG,aN,aI,aF,aL,aH,aM,aO,aJ,aP,aR,List.length_map];(repeat refine AI ?_);refine hK' _ _ ?_;clear hK' K')
  refine aB (g:=none) rfl rfl fun K' hK'=>?_;simp (maxSteps:=4000000) only[sH,↓sP,sA,tyS,simprocAttr,aK,aG,aN,aI,aF,aL,aH,aM,aO,aJ,aP,aR,htk,List.length_map,↓hslice3.eq_def,Int.natCast_nonneg,eC,List.drop_zero,Nat.sub_zero,Int.le_refl,Int.toNat_zero];repeat refine AI ?_
  refine hK' _ _ ?_;clear hK' K';rw[hlex];refine⟨_,_,_,hj,rfl,rfl,rfl,rfl,rfl,?_,?_,?_⟩
  · rw[hx];rfl
  · simp only[sR,List.range',simprocAttr];rw[hlex];refine⟨by simp,fun _=>?_⟩;have:=List.drop_eq_nil_iff.1 hd;simp only[List.length_map]at hj⊢;omega
  simp only[sR,List.range',simprocAttr];rw[hlex];exact⟨by simp,fun h=>by cases h⟩
 have hn: ¬dO rest c<0:=by simpa using hb
 obtain⟨k,hk,hkl,hsp2⟩:=eW hn;rw[hk];rw[hsp2]at hsp;obtain⟨hj,hx,hd⟩:=bB8 (α:=Nat) _ _ _ _ hsp;have hkm:min k rest.length=k:=by omega
 have ek:List.take k (rest.map u8)=(rest.take k).map u8:=List.map_take.symm;have htk:List.take k ((rest.take k).map u8)=(rest.take k).map u8:=List.take_of_length_le (by simp;omega);have hw1:IntKind.i64.wrap ((k:Int)+1)=((k+1:Nat):Int):=by rw[IntWalk.i64_in _ (by omega)];rfl
 have hkl1:k+1≤rest.length:=hkl;have edr:List.take (rest.length-(k+1)) (List.drop (k+1) (rest.map u8))=(rest.drop (k+1)).map u8:=by rw[List.map_drop,List.take_of_length_le (by simp)]
 refine rV ?_;simp only[sE,↓reduceIte,simprocAttr,aK,aG,aN,aI,aF,aL,aH,aM,aO,aJ,aP,aR];refine hK1 _ _ _ _ _ ?_;clear hK1 K1;refine gC fun K1 hK1=>rU hS rfl (aC (by kernel_rfl) ?_);simp only[sR,simprocAttr];iterate 6
  (refine aB (g:=none) rfl rfl fun K' hK'=>?_;simp only[sH,↓sP,sA,tyS,simprocAttr,aK,aG,aN,aI,aF,aL,aH,aM,aO,aJ,aP,aR,ek,List.length_map,Int.natCast_nonneg,eC,Int.add_zero,Int.ofNat_le,Nat.le_of_lt hkl,List.drop_zero,Nat.sub_zero,show IntKind.i64.wrap (k:Int)=(k:Int)from IntWalk.i64_in _ (by omega)];(repeat refine AI ?_);refine hK' _ _ ?_;clear hK' K')
 simp only[sE,↓reduceIte,simprocAttr,aK,aG,aN,aI,aF,aL,aH,aM,aO,aJ,aP,aR];refine hK1 _ _ _ _ _ ?_;clear hK1 K1;refine gC fun K1 hK1=>?_;refine gC fun K2 hK2=>uD (l:=L) 7 hS hY rfl (by kernel_rfl) (by decide) ?_;simp only[sR,List.range',simprocAttr];iterate 6
  (refine aB (g:=none) rfl rfl fun K' hK'=>?_;simp only[sH,↓sP,sA,tyS,simprocAttr,aK,aG,aN,aI,aF,aL,aH,aM,aO,aJ,aP,aR,List.length_map,List.length_take,hkm];(repeat refine AI ?_);refine hK' _ _ ?_;clear hK' K')
 refine aB (g:=none) rfl rfl fun K' hK'=>?_;simp (maxSteps:=4000000) only[sH,↓sP,sA,tyS,simprocAttr,aK,aG,aN,aI,aF,aL,aH,aM,aO,aJ,aP,aR,htk,List.length_map,List.length_take,hkm,↓hslice3.eq_def,Int.natCast_nonneg,eC,List.drop_zero,Nat.sub_zero,Int.le_refl,Int.toNat_zero];repeat refine AI ?_
 refine hK' _ _ ?_;clear hK' K';rw[hlex];refine⟨_,_,_,hj,rfl,rfl,rfl,rfl,rfl,?_,?_,?_⟩
 · rw[hx];rfl
 ·
  simp only[sR,List.range',simprocAttr];refine aB (g:=none) rfl rfl fun K' hK'=>?_;simp (maxSteps:=4000000) only[sH,↓sP,sA,tyS,simprocAttr,aK,aG,aN,aI,aF,aL,aH,aM,aO,aJ,aP,aR];repeat refine AI ?_
  refine hK' _ _ ?_;clear hK' K';simp only[sE,↓reduceIte,simprocAttr,aK,aG,aN,aI,aF,aL,aH,aM,aO,aJ,aP,aR];refine hK2 _ _ _ _ _ ?_;clear hK2 K2;refine nD (b:=false) rfl (fun hb=>by cases hb) (fun _=>?_);refine rV ?_;simp only[sE,↓reduceIte,simprocAttr,aK,aG,aN,aI,aF,aL,aH,aM,aO,aJ,aP,aR];refine hK1 _ _ _ _ _ ?_;clear hK1 K1;refine rU hS rfl (aC (by kernel_rfl) ?_);simp only[sR,simprocAttr];iterate 7
   (refine aB (g:=none) rfl rfl fun K' hK'=>?_;simp only[sH,↓sP,sA,tyS,simprocAttr,aK,aG,aN,aI,aF,aL,aH,aM,aO,aJ,aP,aR,edr,hw1,List.length_map,Int.natCast_nonneg,eC,Int.ofNat_le,hkl1,denilL_u8];(repeat refine AI ?_);refine hK' _ _ ?_;clear hK' K')
  simp only[sE,↓reduceIte,simprocAttr,aK,aG,aN,aI,aF,aL,aH,aM,aO,aJ,aP,aR];refine⟨⟨(j+1,rest.drop (k+1)),hd,by simp;omega⟩,aS (by omega) (by simp[bK,fin_at,finA_at,upd_at,HV.men,HV.menL,HV.norm,HV.toC,HV.toCL]) (by simp[bM,fob_at,upd_at,none0_at,bY,HO.men,HV.men,HV.menL,HV.norm,HV.toC,HV.toCL]),trivial,rfl,?_⟩;show(rest.drop (k+1)).length<rest.length;simp;omega
 simp only[sR,List.range',simprocAttr];refine aB (g:=none) rfl rfl fun K' hK'=>?_;simp (maxSteps:=4000000) only[sH,↓sP,sA,tyS,simprocAttr,aK,aG,aN,aI,aF,aL,aH,aM,aO,aJ,aP,aR];repeat refine AI ?_
 refine hK' _ _ ?_;clear hK' K';simp only[sE,↓reduceIte,simprocAttr,aK,aG,aN,aI,aF,aL,aH,aM,aO,aJ,aP,aR];refine hK2 _ _ _ _ _ ?_;clear hK2 K2;refine nD (b:=true) rfl (fun _=>?_) (fun hb=>by cases hb);refine aZ0 ?_;simp only[sE,↓reduceIte,simprocAttr,aK,aG,aN,aI,aF,aL,aH,aM,aO,aJ,aP,aR];exact⟨by simp,fun h=>by cases h⟩
theorem bE4 (s:aU)(hl:s.length<2^40):eD Tryz.prog 38 [.str s] (fun u v=>u= .str ((unW s).getD [])∧v= .bool (unW s).isSome):=by
 refine bI Tryz.func38 rfl (by kernel_rfl) (bJ _) (Nat.le_of_ble_eq_true rfl) ?_;refine aD fun K hK=>aC (by kernel_rfl) ?_;simp (maxSteps:=4000000) only[↓sP,sA,tyS,simprocAttr];repeat refine AI ?_
 refine hK _ _ _ ?_;clear hK K;refine aD fun K hK=>?_;refine aD fun K hK=>aC (by kernel_rfl) ?_;simp (maxSteps:=4000000) only[↓sP,sA,tyS,simprocAttr];repeat refine AI ?_
 refine hK _ _ _ ?_;clear hK K;refine aQ (b:=s==[126]) rfl (fun hb=>?_) (fun hb=>?_)
 ·
  refine aD fun K hK=>aC (by kernel_rfl) ?_;simp (maxSteps:=4000000) only[↓sP,sA,tyS,simprocAttr];repeat refine AI ?_
  refine hK _ _ _ ?_;clear hK K;refine aT ?_;simp (maxSteps:=4000000) only[bA,Tryz.results38,aY,aZ,aX,↓sP,sA,tyS,simprocAttr];have hs:s=[126]:=by simpa using hb
  subst hs;exact aW [] (.str []) (.bool true) rfl ⟨rfl,rfl⟩
 refine aV ?_;simp (maxSteps:=4000000) only[↓sP,sA,tyS,simprocAttr];repeat refine AI ?_
 refine hK _ _ _ ?_;clear hK K;have hne:s≠[126]:=by simpa using hb
 clear hb;refine aD fun K hK=>aC (by kernel_rfl) ?_;simp (maxSteps:=4000000) only[↓sP,sA,tyS,simprocAttr];repeat refine AI ?_
 refine hK _ _ _ ?_;clear hK K;refine aD fun K hK=>?_;refine aD fun K hK=>aC (by kernel_rfl) ?_;simp (maxSteps:=4000000) only[↓sP,sA,tyS,simprocAttr];repeat refine AI ?_
 refine hK _ _ _ ?_;clear hK K;refine bE ?_;refine iD 4 0 5 1 rfl rfl rfl rfl ?_;refine cA (α:={y:Nat×aU//UnSt s y.1 y.2}) (fun y=>(fin [(0,.c (.str s)),(4,.own 24 y.1.2.length),(5,.c (.int .i64 y.1.1))],fob [(24,.row 5 1 (y.1.2.map cQ))])) 100 (fun y=>s.length-y.1.1) ⟨(0,[]),UnSt.init s⟩ (aS (by omega) (by simp[bK,fin_at,finA_at,upd_at,HV.men,HV.menL,HV.norm,HV.toC,HV.toCL]) (by simp[bM,fob_at,upd_at,none0_at,bY,HO.men,HV.men,HV.menL,HV.norm,HV.toC,HV.toCL])) ?_;rintro⟨⟨i,out⟩,hst⟩;simp only at hst;have hi:=hst.1;have ho:=hst.2.2.2;refine aD fun K hK=>?_;refine aD fun K hK=>aC (by kernel_rfl) ?_;simp only[sR,simprocAttr];iterate 4
  (refine aB (g:=none) rfl rfl fun K' hK'=>?_;simp only[sH,↓sP,sA,tyS,simprocAttr];(repeat refine AI ?_);refine hK' _ _ ?_;clear hK' K')
 simp only[sE,↓reduceIte,simprocAttr];repeat refine AI ?_
 refine hK _ _ _ ?_;clear hK K;refine aQ (b:=decide ((i:Int)<s.length)) rfl (fun hb=>?_) (fun hb=>?_)
 ·
  have hlt:i<s.length:=by simpa using hb
  clear hb;have hgd:s.getD i 0=s[i]:=by simp[hlt]
  refine aV ?_;simp (maxSteps:=4000000) only[↓sP,sA,tyS,simprocAttr];repeat refine AI ?_
  refine hK _ _ _ ?_;clear hK K;refine aD fun K hK=>?_;refine bE ?_;refine aD fun K hK=>?_;refine aD fun K hK=>aC (by kernel_rfl) ?_;simp only[sR,simprocAttr];iterate 3
   (refine aB (g:=none) rfl rfl fun K' hK'=>?_;simp only[sH,↓sP,sA,tyS,simprocAttr,Int.natCast_nonneg,Int.ofNat_lt,hlt,hgd];(repeat refine AI ?_);refine hK' _ _ ?_;clear hK' K')
  refine aB (g:=none) rfl rfl fun K' hK'=>?_;simp (maxSteps:=4000000) only[sH,↓sP,sA,tyS,simprocAttr,Int.natCast_nonneg,Int.ofNat_lt,hlt,hgd];refine bH (args:=[_]) (mY s[i]) ⟨rfl,rfl,rfl,rfl⟩ ?_;rintro u rfl;repeat refine AI ?_
  refine hK' _ _ ?_;clear hK' K';simp only[sE,↓reduceIte,simprocAttr];repeat refine AI ?_
  refine hK _ _ _ ?_;clear hK K;refine aQ (b:=cF s[i]) rfl (fun hb=>?_) (fun hb=>?_)
  ·
   refine aD fun K hK=>aC (by kernel_rfl) ?_;simp only[sR,simprocAttr];iterate 7
    (refine aB (g:=none) rfl rfl fun K' hK'=>?_;simp only[sH,↓sP,sA,tyS,simprocAttr,Int.natCast_nonneg,Int.ofNat_lt,hlt,hgd,List.length_append,List.length_map];(repeat refine AI ?_);refine hK' _ _ ?_;clear hK' K')
   simp only[sE,↓reduceIte,simprocAttr];repeat refine AI ?_
   refine hK _ _ _ ?_;clear hK K;refine bW ?_;simp (maxSteps:=4000000) only[↓sP,sA,tyS,simprocAttr];clear hK K;repeat refine AI ?_
   refine hK _ _ _ ?_;clear hK K;refine aC (by kernel_rfl) ?_;simp (maxSteps:=4000000) only[↓sP,sA,tyS,simprocAttr,IntWalk.i64_in _ (show-9223372036854775808≤(i:Int)+1∧(i:Int)+1≤9223372036854775807 by omega)];refine⟨⟨(i+1,out++[s[i]]),hst.plain hlt hb⟩,aS (by omega) ?_ ?_,?_⟩
   · simp[bK,upd_at,fin_at,HV.men]
   · simp only[bM,List.map_append];exact⟨rfl,by omega,trivial,trivial⟩
   show s.length-(i+1)<s.length-i;omega
  refine aV ?_;simp (maxSteps:=4000000) only[↓sP,sA,tyS,simprocAttr];repeat refine AI ?_
  refine hK _ _ _ ?_;clear hK K;refine aD fun K hK=>?_;have hp:cF s[i]=false:=hb;clear hb;have hw1:IntKind.i64.wrap ((i:Int)+1)=((i+1:Nat):Int):=by rw[IntWalk.i64_in _ (by omega)];rfl
  have hw2:IntKind.i64.wrap ((i:Int)+2)=((i+2:Nat):Int):=by rw[IntWalk.i64_in _ (by omega)];rfl
  have hw3:IntKind.i64.wrap (((i+2:Nat):Int)+1)=((i+3:Nat):Int):=by rw[IntWalk.i64_in _ (by omega)];rfl
  refine aD fun K hK=>aC (by kernel_rfl) ?_;simp only[sR,simprocAttr];iterate 5
   (refine aB (g:=none) rfl rfl fun K' hK'=>?_;simp only[sH,↓sP,sA,tyS,simprocAttr,Int.natCast_nonneg,Int.ofNat_lt,hlt,hgd,hw2];(repeat refine AI ?_);refine hK' _ _ ?_;clear hK' K')
  refine bG 29 rfl (fun h9_29=>?_) (fun h9_29=>?_)
  ·
   iterate 5
    (refine aB (g:=some (30,false)) rfl rfl fun K' hK'=>?_;simp only[sH,↓sP,sA,tyS,simprocAttr,Int.natCast_nonneg,Int.ofNat_lt,hlt,hgd,hw2,h9_29];(repeat refine AI ?_);refine hK' _ _ ?_;clear hK' K')
   refine aB (g:=none) rfl rfl fun K' hK'=>?_;simp (maxSteps:=4000000) only[sH,↓sP,sA,tyS,simprocAttr,Int.natCast_nonneg,Int.ofNat_lt,hlt,hgd,hw2,h9_29];repeat refine AI ?_
   refine hK' _ _ ?_;clear hK' K';simp only[sE,↓reduceIte,simprocAttr];repeat refine AI ?_
   refine hK _ _ _ ?_;clear hK K;refine aQ (b:=true) rfl (fun hb=>?_) (fun hb=>?_)
   ·
    refine aD fun K hK=>aC (by kernel_rfl) ?_;simp (maxSteps:=4000000) only[↓sP,sA,tyS,simprocAttr];repeat refine AI ?_
    refine hK _ _ _ ?_;clear hK K;refine aT ?_;simp (maxSteps:=4000000) only[bA,Tryz.results38,aY,aZ,aX,↓sP,sA,tyS,simprocAttr];have h37:s[i]≠37:=by rintro h;rw[h]at h9_29;simp at h9_29
    have hn:=eN (hst.bad1 hlt hp (.inl h37)) hne;exact aW [] (.str []) (.bool false) rfl ⟨by rw[hn];rfl,by rw[hn];rfl⟩
   cases hb
  iterate 5
   (refine aB (g:=some (30,false)) rfl rfl fun K' hK'=>?_;simp only[sH,↓sP,sA,tyS,simprocAttr,Int.natCast_nonneg,Int.ofNat_lt,hlt,hgd,hw2,h9_29];(repeat refine AI ?_);refine hK' _ _ ?_;clear hK' K')
  refine aB (g:=none) rfl rfl fun K' hK'=>?_;simp (maxSteps:=4000000) only[sH,↓sP,sA,tyS,simprocAttr,Int.natCast_nonneg,Int.ofNat_lt,hlt,hgd,hw2,h9_29];repeat refine AI ?_
  refine hK' _ _ ?_;clear hK' K';refine bG 35 rfl (fun h9_35=>?_) (fun h9_35=>?_)
  ·
   simp only[h9_35];simp only[sE,↓reduceIte,simprocAttr];repeat refine AI ?_
   refine hK _ _ _ ?_;clear hK K;refine aQ (b:=true) rfl (fun hb=>?_) (fun hb=>?_)
   ·
    refine aD fun K hK=>aC (by kernel_rfl) ?_;simp (maxSteps:=4000000) only[↓sP,sA,tyS,simprocAttr];repeat refine AI ?_
    refine hK _ _ _ ?_;clear hK K;refine aT ?_;simp (maxSteps:=4000000) only[bA,Tryz.results38,aY,aZ,aX,↓sP,sA,tyS,simprocAttr];have hi2:s.length≤i+2:=by simp at h9_35;omega
    have hn:=eN (hst.bad1 hlt hp (.inr hi2)) hne;exact aW [] (.str []) (.bool false) rfl ⟨by rw[hn];rfl,by rw[hn];rfl⟩
   cases hb
  simp only[h9_35];simp only[sE,↓reduceIte,simprocAttr];repeat refine AI ?_
  refine hK _ _ _ ?_;clear hK K;refine aQ (b:=false) rfl (fun hb=>?_) (fun hb=>?_)
  · cases hb
  refine aV ?_;simp (maxSteps:=4000000) only[↓sP,sA,tyS,simprocAttr];repeat refine AI ?_
  refine hK _ _ _ ?_;clear hK K;have h37:s[i]=37:=by
   simp only[bne_eq_false_iff_eq]at h9_29;exact UInt8.toNat_inj.1 (by show s[i].toNat=37;omega)
  have hi2:i+2<s.length:=by simp at h9_35;omega
  have hi1:i+1<s.length:=by omega
  have hg1:s.getD (i+1) 0=s[i+1]:=by simp[hi1]
  have hg2:s.getD (i+2) 0=s[i+2]:=by simp[hi2]
  refine aD fun K hK=>eL mixed [(0,[],[]),(1,[],[]),(2,[],[]),(3,[],[]),(5,[],[]),(6,[],[]),(7,[],[]),(8,[],[]),(4,[],[5,6,7,8]),(9,[],[]),(10,[],[]),(11,[],[])] [0,0,2,7,15,0,0,64,224,511,1023,2047] (by kernel_rfl) (by kernel_rfl) (by kernel_rfl) (by kernel_rfl) rfl (by kernel_rfl) ?_;iterate 8
   (refine bR (g:=none) rfl rfl fun K' hK'=>?_;simp only[sH,↓sP,sA,tyS,simprocAttr,Int.natCast_nonneg,Int.ofNat_lt,hw1,hw2,hg1,hg2,hi1,hi2,h9_29,h9_35];(repeat refine AI ?_);refine hK' _ _ ?_;clear hK' K')
  refine bR (g:=none) rfl rfl fun K' hK'=>?_;simp (maxSteps:=4000000) only[sH,↓sP,sA,tyS,simprocAttr,Int.natCast_nonneg,Int.ofNat_lt,hw1,hw2,hg1,hg2,hi1,hi2,h9_29,h9_35];refine bH (args:=[_,_]) (nJ aZ2 s[i+1]) ⟨rfl,rfl,rfl,rfl⟩ ?_;rintro u rfl;repeat refine AI ?_
  refine hK' _ _ ?_;clear hK' K';refine bR (g:=none) rfl rfl fun K' hK'=>?_;simp (maxSteps:=4000000) only[sH,↓sP,sA,tyS,simprocAttr,Int.natCast_nonneg,Int.ofNat_lt,hw1,hw2,hg1,hg2,hi1,hi2,h9_29,h9_35];refine bH (args:=[_,_]) (nJ aZ2 s[i+2]) ⟨rfl,rfl,rfl,rfl⟩ ?_;rintro u rfl;repeat refine AI ?_
  refine hK' _ _ ?_;clear hK' K';iterate 2
   (refine bR (g:=none) rfl rfl fun K' hK'=>?_;simp only[sH,↓sP,sA,tyS,simprocAttr,Int.natCast_nonneg,Int.ofNat_lt,hw1,hw2,hg1,hg2,hi1,hi2,h9_29,h9_35];(repeat refine AI ?_);refine hK' _ _ ?_;clear hK' K')
  simp only[sE,↓reduceIte,simprocAttr];repeat refine AI ?_
  refine hK _ _ _ ?_;clear hK K;refine aD fun K hK=>?_;by_cases hx:valH s[i+1]<16
  ·
   by_cases hy:valH s[i+2]<16
   ·
    rw[nH,nH,if_pos hx,if_pos hy];have hx0:decide (((valH s[i+1]:Nat):Int)<0)=false:=by simp
    have hy0:decide (((valH s[i+2]:Nat):Int)<0)=false:=by simp
    have e1:IntKind.i64.wrap (16*((valH s[i+1]:Nat):Int))=((16*valH s[i+1]:Nat):Int):=by rw[IntWalk.i64_in _ (by omega)];omega
    have e2:IntKind.i64.wrap (((16*valH s[i+1]:Nat):Int)+((valH s[i+2]:Nat):Int))=((16*valH s[i+1]+valH s[i+2]:Nat):Int):=by rw[IntWalk.i64_in _ (by omega)];omega
    have e3:IntKind.u8.wrap ((16*valH s[i+1]+valH s[i+2]:Nat):Int)=((byteH s[i+1] s[i+2]).toNat:Int):=by rw[IntWalk.u8_in _ (by omega),oO hx hy]
    refine aD fun K hK=>aC (by kernel_rfl) ?_;simp only[sR,simprocAttr];iterate 3
     (refine aB (g:=none) rfl rfl fun K' hK'=>?_;simp only[sH,↓sP,sA,tyS,simprocAttr,hx0,hy0,e1,e2,e3,h9_29,h9_35];(repeat refine AI ?_);refine hK' _ _ ?_;clear hK' K')
    iterate 2
     (refine aB (g:=some (49,false)) rfl rfl fun K' hK'=>?_;simp only[sH,↓sP,sA,tyS,simprocAttr,hx0,hy0,e1,e2,e3,h9_29,h9_35];(repeat refine AI ?_);refine hK' _ _ ?_;clear hK' K')
    iterate 2
     (refine aB (g:=none) rfl rfl fun K' hK'=>?_;simp only[sH,↓sP,sA,tyS,simprocAttr,hx0,hy0,e1,e2,e3,h9_29,h9_35];(repeat refine AI ?_);refine hK' _ _ ?_;clear hK' K')
    iterate 5
     (refine aB (g:=some (53,false)) rfl rfl fun K' hK'=>?_;simp only[sH,↓sP,sA,tyS,simprocAttr,hx0,hy0,e1,e2,e3,h9_29,h9_35];(repeat refine AI ?_);refine hK' _ _ ?_;clear hK' K')
    refine aB (g:=some (53,false)) rfl rfl fun K' hK'=>?_;simp (maxSteps:=4000000) only[sH,↓sP,sA,tyS,simprocAttr,hx0,hy0,e1,e2,e3,h9_29,h9_35];refine bH (args:=[_]) (mY (byteH s[i+1] s[i+2])) ⟨rfl,rfl,rfl,rfl⟩ ?_;rintro u rfl;repeat refine AI ?_
    refine hK' _ _ ?_;clear hK' K';refine aB (g:=none) rfl rfl fun K' hK'=>?_;simp (maxSteps:=4000000) only[sH,↓sP,sA,tyS,simprocAttr,hx0,hy0,e1,e2,e3,h9_29,h9_35];repeat refine AI ?_
    refine hK' _ _ ?_;clear hK' K';simp only[sE,↓reduceIte,simprocAttr];repeat refine AI ?_
    refine hK _ _ _ ?_;clear hK K;refine aQ (b:=cF (byteH s[i+1] s[i+2])) rfl (fun hb=>?_) (fun hb=>?_)
    ·
     refine aD fun K hK=>aC (by kernel_rfl) ?_;simp (maxSteps:=4000000) only[↓sP,sA,tyS,simprocAttr];repeat refine AI ?_
     refine hK _ _ _ ?_;clear hK K;refine aT ?_;simp (maxSteps:=4000000) only[bA,Tryz.results38,aY,aZ,aX,↓sP,sA,tyS,simprocAttr];have hn:=eN (hst.bad2 hi2 h37 (by simp[okH,hx,hy,hb])) hne;exact aW [] (.str []) (.bool false) rfl ⟨by rw[hn];rfl,by rw[hn];rfl⟩
    refine aV ?_;simp (maxSteps:=4000000) only[↓sP,sA,tyS,simprocAttr];repeat refine AI ?_
    refine hK _ _ _ ?_;clear hK K;refine aD fun K hK=>aC (by kernel_rfl) ?_;simp only[sR,simprocAttr];iterate 9
     (refine aB (g:=none) rfl rfl fun K' hK'=>?_;simp only[sH,↓sP,sA,tyS,simprocAttr,Int.natCast_nonneg,List.length_append,List.length_map,e1,e2,e3,h9_29,h9_35];(repeat refine AI ?_);refine hK' _ _ ?_;clear hK' K')
    simp only[sE,↓reduceIte,simprocAttr];repeat refine AI ?_
    refine hK _ _ _ ?_;clear hK K;refine aC (by kernel_rfl) ?_;simp (maxSteps:=4000000) only[↓sP,sA,tyS,simprocAttr,hw2];repeat refine AI ?_
    refine hK _ _ _ ?_;clear hK K;refine aC (by kernel_rfl) ?_;simp (maxSteps:=4000000) only[↓sP,sA,tyS,simprocAttr,hw3];refine⟨⟨(i+3,out++[byteH s[i+1] s[i+2]]),hst.esc hi2 h37 (by simp[okH,hx,hy,hb])⟩,aS (by omega) ?_ ?_,?_⟩
    · simp[bK,upd_at,fin_at,HV.men]
    · simp only[bM,List.map_append];exact⟨rfl,by omega,trivial,trivial⟩
    show s.length-(i+3)<s.length-i;omega
   rw[nH,nH,if_pos hx,if_neg hy];have hx0:decide (((valH s[i+1]:Nat):Int)<0)=false:=by simp
   refine aD fun K hK=>aC (by kernel_rfl) ?_;simp only[sR,simprocAttr];iterate 3
    (refine aB (g:=none) rfl rfl fun K' hK'=>?_;simp only[sH,↓sP,sA,tyS,simprocAttr,hx0,h9_29,h9_35];(repeat refine AI ?_);refine hK' _ _ ?_;clear hK' K')
   iterate 2
    (refine aB (g:=some (49,false)) rfl rfl fun K' hK'=>?_;simp only[sH,↓sP,sA,tyS,simprocAttr,hx0,h9_29,h9_35];(repeat refine AI ?_);refine hK' _ _ ?_;clear hK' K')
   iterate 2
    (refine aB (g:=none) rfl rfl fun K' hK'=>?_;simp only[sH,↓sP,sA,tyS,simprocAttr,hx0,h9_29,h9_35];(repeat refine AI ?_);refine hK' _ _ ?_;clear hK' K')
   iterate 6
    (refine aB (g:=some (53,false)) rfl rfl fun K' hK'=>?_;simp only[sH,↓sP,sA,tyS,simprocAttr,hx0,h9_29,h9_35];(repeat refine AI ?_);refine hK' _ _ ?_;clear hK' K')
   refine aB (g:=none) rfl rfl fun K' hK'=>?_;simp (maxSteps:=4000000) only[sH,↓sP,sA,tyS,simprocAttr,hx0,h9_29,h9_35];repeat refine AI ?_
   refine hK' _ _ ?_;clear hK' K';simp only[sE,↓reduceIte,simprocAttr];repeat refine AI ?_
   refine hK _ _ _ ?_;clear hK K;refine aQ (b:=true) rfl (fun hb=>?_) (fun hb=>?_)
   ·
    refine aD fun K hK=>aC (by kernel_rfl) ?_;simp (maxSteps:=4000000) only[↓sP,sA,tyS,simprocAttr];repeat refine AI ?_
    refine hK _ _ _ ?_;clear hK K;refine aT ?_;simp (maxSteps:=4000000) only[bA,Tryz.results38,aY,aZ,aX,↓sP,sA,tyS,simprocAttr];have hn:=eN (hst.bad2 hi2 h37 (by simp[okH,hx,hy])) hne;exact aW [] (.str []) (.bool false) rfl ⟨by rw[hn];rfl,by rw[hn];rfl⟩
   cases hb
  rw[nH,if_neg hx];refine aD fun K hK=>aC (by kernel_rfl) ?_;simp only[sR,simprocAttr];iterate 3
   (refine aB (g:=none) rfl rfl fun K' hK'=>?_;simp only[sH,↓sP,sA,tyS,simprocAttr,h9_29,h9_35];(repeat refine AI ?_);refine hK' _ _ ?_;clear hK' K')
  iterate 2
   (refine aB (g:=some (49,false)) rfl rfl fun K' hK'=>?_;simp only[sH,↓sP,sA,tyS,simprocAttr,h9_29,h9_35];(repeat refine AI ?_);refine hK' _ _ ?_;clear hK' K')
  iterate 2
   (refine aB (g:=none) rfl rfl fun K' hK'=>?_;simp only[sH,↓sP,sA,tyS,simprocAttr,h9_29,h9_35];(repeat refine AI ?_);refine hK' _ _ ?_;clear hK' K')
  iterate 6
   (refine aB (g:=some (53,false)) rfl rfl fun K' hK'=>?_;simp only[sH,↓sP,sA,tyS,simprocAttr,h9_29,h9_35];(repeat refine AI ?_);refine hK' _ _ ?_;clear hK' K')
  refine aB (g:=none) rfl rfl fun K' hK'=>?_;simp (maxSteps:=4000000) only[sH,↓sP,sA,tyS,simprocAttr,h9_29,h9_35];repeat refine AI ?_
  refine hK' _ _ ?_;clear hK' K';simp only[sE,↓reduceIte,simprocAttr];repeat refine AI ?_
  refine hK _ _ _ ?_;clear hK K;refine aQ (b:=true) rfl (fun hb=>?_) (fun hb=>?_)
  ·
   refine aD fun K hK=>aC (by kernel_rfl) ?_;simp (maxSteps:=4000000) only[↓sP,sA,tyS,simprocAttr];repeat refine AI ?_
   refine hK _ _ _ ?_;clear hK K;refine aT ?_;simp (maxSteps:=4000000) only[bA,Tryz.results38,aY,aZ,aX,↓sP,sA,tyS,simprocAttr];have hn:=eN (hst.bad2 hi2 h37 (by simp[okH,hx])) hne;exact aW [] (.str []) (.bool false) rfl ⟨by rw[hn];rfl,by rw[hn];rfl⟩
  cases hb
 refine bW ?_;simp (maxSteps:=4000000) only[↓sP,sA,tyS,simprocAttr];clear hK K;repeat refine AI ?_
 refine hK _ _ _ ?_;clear hK K;have hei:i=s.length:=by simp at hb;omega
 have hfin:=hst.fin hei hne;refine eK [24] (cN (fr2:=fin [(4,.c (.slc (out.map cQ)))]) (ob2:=fob []) (nx2:=200) (aS (by omega) (by simp[bK,iB,fin_at,finA_at,upd_at,fob_at,HV.close,HV.closeL,CV.denil,CV.denilL,dI,HV.men,HV.menL,HV.norm,HV.toC,HV.toCL]) (by simp[bM,iC,fob_at,upd_at,none0_at,bY,HO.close,HV.close,HV.closeL,HO.men,HV.men,HV.menL,HV.norm,HV.toC,HV.toCL])) ?_);refine aD fun K hK=>aC (by kernel_rfl) ?_;simp only[sR,simprocAttr];iterate 7
  (refine aB (g:=none) rfl rfl fun K' hK'=>?_;simp only[sH,↓sP,sA,tyS,simprocAttr,bytesC_map,List.length_map];(repeat refine AI ?_);refine hK' _ _ ?_;clear hK' K')
 simp only[sE,↓reduceIte,simprocAttr];repeat refine AI ?_
 refine hK _ _ _ ?_;clear hK K;refine aT ?_;simp (maxSteps:=4000000) only[bA,Tryz.results38,aY,aZ,aX,↓sP,sA,tyS,simprocAttr];refine aW [] (.str out) (.bool (decide (0<(out.length:Int)))) rfl ?_;rw[hfin];by_cases ho0:out=[]
 · subst ho0;simp
 have:0<out.length:=List.length_pos_iff.2 ho0;simp[ho0,this]
end Go.Proofs.YtflnfidkociekaaGreatDoor
