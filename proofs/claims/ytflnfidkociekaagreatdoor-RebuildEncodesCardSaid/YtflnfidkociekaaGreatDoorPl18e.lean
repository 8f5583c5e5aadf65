/- More plain laws of the judgement. By an AI agent. -/
import Derived.Test.YtflnfidkociekaaGreatDoorPlSha
import Derived.Sort.KeysCollected
set_option linter.unusedSimpArgs false
set_option linter.unusedVariables false
set_option linter.defProp false
namespace Go.Hl
open Go
mutual
def CV.flatv :CV→Bool
  | .bool _=>true
  | .int _ _=>true
  | .str _=>true
  | .agg l=>CV.flatvL l
  |_=>false
def CV.flatvL :List CV→Bool
  |[]=>true
  |v::l=>v.flatv&&CV.flatvL l
end
variable {nid:Nat}{σ:List Nat}{ob:Ob}
theorem fZ {lob:Ob}(hn:σ.Nodup)(h1: ∀j,j<σ.length→ ∃o,lob j=some o∧ob (σ.getD j 0)=some (o.ren (sub σ nid)))(h2: ∀j,σ.length≤j→lob j=none)(h3: ∀i,nid≤i→i<nid+4→ob i=none):
    bU ob σ nid lob=ob:=by
  funext i;unfold bU;split
  · rename_i j hj
    obtain⟨hjl,hje,_⟩:=List.findIdx?_eq_some_iff_getElem.1 hj;obtain⟨o,e1,e2⟩:=h1 j hjl;have:σ.getD j 0=i:=by rw[List.getD_eq_getElem?_getD,List.getElem?_eq_getElem hjl];simpa using hje
    rw[e1,←this,e2];rfl
  · split
    · rename_i h;rw[h2 _ (by omega),h3 i h.1 h.2];rfl
    · rfl
variable {id:Nat}
theorem mP {lob:Ob}(hn:σ.Nodup)(h0:σ[0]? =some id)(hl0:lob 0=none)(h1: ∀j,0<j→j<σ.length→ ∃o,lob j=some o∧ob (σ.getD j 0)=some (o.ren (sub σ nid)))(h2: ∀j,σ.length≤j→lob j=none)(h3: ∀i,nid≤i→i<nid+4→ob i=none):
    bU ob σ nid lob=bY ob id:=by
  funext i;unfold bU bY;split
  · rename_i j hj
    obtain⟨hjl,hje,_⟩:=List.findIdx?_eq_some_iff_getElem.1 hj;have this:σ[j]=i:=by simpa using hje
    by_cases e:j=0
    · subst e
      rw[List.getElem?_eq_getElem hjl]at h0;have e2:i=id:=by rw[←this];exact Option.some.inj h0
      rw[hl0,if_pos e2];rfl
    · obtain⟨o,e1,e2⟩:=h1 j (by omega) hjl
      have hne:i≠id:=by
        intro e3;have h0l:0<σ.length:=by omega
        rw[List.getElem?_eq_getElem h0l]at h0;have:=(List.pairwise_iff_getElem.1 hn) 0 j h0l hjl (by omega);exact this ((Option.some.inj h0).trans (e3.symm.trans (by rw[← ‹σ[j]=i›])))
      have e4:σ.getD j 0=i:=by rw[List.getD_eq_getElem?_getD,List.getElem?_eq_getElem hjl];simpa using this
      rw[e1,if_neg hne,←e4,e2];rfl
  · rename_i hno
    have hne:i≠id:=by
      rintro rfl;rw[List.findIdx?_eq_none_iff]at hno;exact absurd (hno i (List.mem_of_getElem? h0)) (by simp)
    rw[if_neg hne];split
    · rename_i h;rw[h2 _ (by omega),h3 i h.1 h.2];rfl
    · rfl
def Free4 (ob:Ob)(nid:Nat):Prop:=ob nid=none∧ob (nid+1)=none∧ob (nid+2)=none∧ob (nid+3)=none
theorem Free4.all (h:Free4 ob nid): ∀i,nid≤i→i<nid+4→ob i=none:=fun i h1 h2=>by
  have:i=nid∨i=nid+1∨i=nid+2∨i=nid+3:=by omega
  rcases this with rfl|rfl|rfl|rfl
  · exact h.1
  · exact h.2.1
  · exact h.2.2.1
  · exact h.2.2.2
def aE4 (T:TypeId)(v:CV)(R:CV→Prop):HV→Ob→Prop:=fun r ob'=> ∃u v',r= .c u∧ob'=fob [(0,.box T (.c v'))]∧(v'=v∧u.flatv=true∧R u)
def aI4 (P:Program)(f:FuncId)(T:TypeId)(v:CV)(args:List CV)(R:CV→Prop):Prop:=HFn P f (args.map HV.c++[HV.ptr 0 0]) 1 (fob [(0,.box T (.c v))]) (aE4 T v R)
def aQ1 (P:Program)(f:FuncId)(g:FuncId)(T:TypeId)(v:CV)(l:List CV)(R:CV→Prop):Prop:=HFn P f [.c (.slc l),.clo g [.ptr 0 0]] 1 (fob [(0,.box T (.c v))]) (aE4 T v R)
def bG7 (P:Program)(f:FuncId)(g:FuncId)(T:TypeId)(v:CV)(e:TypeId)(sz:Nat)(l:List CV)(R:CV→Prop):Prop:=
  HFn P f [.own 0 l.length,.clo g [.ptr 1 0]] 2 (fob [(0,.row e sz l),(1,.box T (.c v))]) (fun r ob'=> ∃u,r= .c u∧ob'=fob [(1,.box T (.c v))]∧R u)
def aQ2 (P:Program)(f:FuncId)(e:TypeId)(sz:Nat)(l:List CV)(R:CV→Prop):Prop:=HFn P f [.own 0 l.length] 1 (fob [(0,.row e sz l)]) (fun r ob'=> ∃u,r= .c u∧ob'=cH∧R u)
theorem oF (T:TypeId)(v:CV)(args:List CV):LocOk 1 (args.map HV.c++[HV.ptr 0 0]) (fob [(0,.box T (.c v))]):=by
  have h:=gF T v [];exact⟨h.all,h.none,by rw[HV.menL_append];exact⟨HV.menL_c,by simp[HV.menL,HV.men]⟩⟩
theorem oG (g:FuncId)(T:TypeId)(v:CV)(l:List CV):LocOk 1 [.c (.slc l),.clo g [.ptr 0 0]] (fob [(0,.box T (.c v))]):=by
  have h:=gF T v [];exact⟨h.all,h.none,by simp[HV.menL,HV.men]⟩
theorem tT (g:FuncId)(T:TypeId)(v:CV)(e:TypeId)(sz n:Nat)(l:List CV):LocOk 2 [.own 0 n,.clo g [.ptr 1 0]] (fob [(0,.row e sz l),(1,.box T (.c v))]):=by
  refine⟨fun j h=>?_,fun id o h=>?_,by simp[HV.menL,HV.men]⟩
  · have:j=0∨j=1:=by omega
    rcases this with rfl|rfl
    · exact⟨_,rfl⟩
    · exact⟨_,rfl⟩
  · simp only[fob_at,fob_nil]at h
    split at h
    · cases h;rename_i e;subst e;exact⟨by omega,trivial⟩
    · split at h
      · cases h;rename_i e;subst e;exact⟨by omega,by simp[HO.men,HV.men]⟩
      · cases h
theorem rF (e:TypeId)(sz n:Nat)(l:List CV):LocOk 1 [.own 0 n] (fob [(0,.row e sz l)]):=by
  refine⟨fun j h=>?_,fun id o h=>?_,by simp[HV.menL,HV.men]⟩
  · have:j=0:=by omega
    subst this;exact⟨_,rfl⟩
  · simp only[fob_at,fob_nil]at h
    split at h
    · cases h;rename_i e;subst e;exact⟨by omega,trivial⟩
    · cases h
variable {w r:HV}{R:CV→Prop}{T:TypeId}
theorem gM (cl:List Nat)(u v:CV)(h:(r.close ob cl).norm= .c u)(hb:ob 0=some (.box T w))(hw:(w.close ob cl).norm= .c v)(h0:0∉cl)(hu:u.flatv=true)(hR:R u):mN 1 r ob (aE4 T v R):=
  kE cl u v h hb hw h0 ⟨rfl,hu,hR⟩
theorem xH (cl:List Nat)(u v:CV)(h:(r.close ob cl).norm= .c u)(hb:ob 1=some (.box T w))(hw:(w.close ob cl).norm= .c v)(h0:1∉cl)(hR:R u):
    mN 2 r ob (fun r ob'=> ∃u,r= .c u∧ob'=fob [(1,.box T (.c v))]∧R u):=by
  refine⟨cl,id,.c u,fob [(1,.box T (.c v))],⟨u,rfl,rfl,hR⟩,by rw[h];rfl,fun _ _=>rfl,fun _ _ _ _ h=>h,by simp[HV.men],fun j o ho=>?_⟩;simp only[fob_at,fob_nil]at ho;split at ho
  · rename_i e;subst e
    cases ho;refine⟨by omega,by simp[HO.men,HV.men],h0,.box T w,hb,?_⟩;simp only[hw];rfl
  · cases ho
theorem aI5 (cl:List Nat)(u:CV)(h:(r.close ob cl).norm= .c u)(hR:R u):mN 1 r ob (fun r ob'=> ∃u,r= .c u∧ob'=cH∧R u):=
  ⟨cl,id,.c u,cH,⟨u,rfl,rfl,hR⟩,by rw[h];rfl,fun _ _=>rfl,fun _ _ _ _ h=>h,by simp[HV.men],fun j o h=>by simp[cH]at h⟩
section
variable {P:Program}{av:List Nat}{f g:FuncId}{ob:Ob}{nid id id2 n:Nat}{K:HV→Ob→Prop}{T e:TypeId}{sz:Nat}{v:CV}{l:List CV}{R:CV→Prop}
theorem xI {args:List CV}(h:aI4 P f T v args R)(hid:ob id=some (.box T (.c v)))(hav:id∉av)(hfree:Free4 ob nid)(hK: ∀u,R u→K (.c u) ob):HCall P av f (args.map HV.c++[HV.ptr id 0]) ob nid K:=by
  have hsub:sub [id] nid 0=id:=rfl;refine⟨[id],(args.map HV.c++[HV.ptr 0 0]:List HV),fob [(0,.box T (.c v))],aE4 T v R,h,oF T v args,⟨by simp,by simpa using hav⟩,?_,fun j o hj=>?_,fun r lob' hR _=>?_⟩
  · have: ∀l1 l2:List HV,HV.renL (sub [id] nid) (l1++l2)=HV.renL (sub [id] nid) l1++HV.renL (sub [id] nid) l2:=by
      intro l1 l2;induction l1 with
      |nil=>rfl
      |cons x l ih=>simp only[List.cons_append,HV.renL,ih]
    rw[this,HV.renL_c];simp only[HV.renL,HV.ren,hsub]
  · simp only[fob_at,fob_nil]at hj
    split at hj
    · rename_i e;subst e;cases hj;simpa[HO.ren,HV.ren]using hid
    · cases hj
  · obtain⟨u,v',rfl,rfl,rfl,_,hR⟩:=hR
    rw[fZ (by simp) (fun j hj=>?_) (fun j hj=>?_) hfree.all]
    · exact hK u hR
    · have:j=0:=by simp at hj;omega
      subst this;exact⟨_,rfl,by simpa[HO.ren,HV.ren]using hid⟩
    · simp only[List.length_cons,List.length_nil]at hj
      rw[fob_at,if_neg (by omega)];rfl
theorem xJ (h:aQ1 P f g T v l R)(hid:ob id=some (.box T (.c v)))(hav:id∉av)(hfree:Free4 ob nid)(hK: ∀u,R u→K (.c u) ob):HCall P av f [.c (.slc l),.clo g [.ptr id 0]] ob nid K:=by
  have hsub:sub [id] nid 0=id:=rfl;refine⟨[id],_,_,_,h,oG g T v l,⟨by simp,by simpa using hav⟩,by simp only[HV.renL,HV.ren,hsub],fun j o hj=>?_,fun r lob' hR _=>?_⟩
  · simp only[fob_at,fob_nil]at hj
    split at hj
    · rename_i e;subst e;cases hj;simpa[HO.ren,HV.ren]using hid
    · cases hj
  · obtain⟨u,v',rfl,rfl,rfl,_,hR⟩:=hR
    rw[fZ (by simp) (fun j hj=>?_) (fun j hj=>?_) hfree.all]
    · exact hK u hR
    · have:j=0:=by simp at hj;omega
      subst this;exact⟨_,rfl,by simpa[HO.ren,HV.ren]using hid⟩
    · simp only[List.length_cons,List.length_nil]at hj
      rw[fob_at,if_neg (by omega)];rfl
theorem aQ3 (h:bG7 P f g T v e sz l R)(hid:ob id=some (.row e sz l))(hid2:ob id2=some (.box T (.c v)))(hn:n=l.length)(hav:id∉av∧id2∉av)(hfree:Free4 ob nid)(hK: ∀u,R u→K (.c u) (bY ob id)):
    HCall P av f [.own id n,.clo g [.ptr id2 0]] ob nid K:=by
  have hne:id≠id2:=by rintro rfl;rw[hid]at hid2;cases hid2
  have h0:sub [id,id2] nid 0=id:=rfl;have h1:sub [id,id2] nid 1=id2:=rfl;subst hn;refine⟨[id,id2],_,_,_,h,tT g T v e sz _ l,⟨by simp[hne],by simpa using hav⟩,by simp only[HV.renL,HV.ren,h0,h1],fun j o hj=>?_,fun r lob' hR _=>?_⟩
  · simp only[fob_at,fob_nil]at hj
    split at hj
    · rename_i e;subst e;cases hj;simpa[HO.ren]using hid
    · split at hj
      · rename_i e;subst e;cases hj;simpa[HO.ren,HV.ren]using hid2
      · cases hj
  · obtain⟨u,rfl,rfl,hR⟩:=hR
    rw[mP (id:=id) (by simp[hne]) rfl rfl (fun j hj0 hj=>?_) (fun j hj=>?_) hfree.all]
    · exact hK u hR
    · have:j=1:=by simp at hj;omega
      subst this;exact⟨_,rfl,by simpa[HO.ren,HV.ren]using hid2⟩
    · simp only[List.length_cons,List.length_nil]at hj
      rw[fob_at,if_neg (by omega)];rfl
end
mutual
theorem oH {w w':World}{O O':Nat→Prop}: ∀{u:CV} {cs:List Value},u.flatv=true→RepC w O u cs→RepC w' O' u cs
  | .bool _,cs,_,h=>by simpa only[RepC]using h
  | .int _ _,cs,_,h=>by simpa only[RepC]using h
  | .str _,cs,_,h=>by simpa only[RepC]using h
  | .agg l,cs,hu,h=>by simp only[RepC,CV.flatv]at h hu⊢;exact rG hu h
  | .nils,cs,hu,_=>by simp[CV.flatv]at hu
  | .slc _,cs,hu,_=>by simp[CV.flatv]at hu
  | .rp _,cs,hu,_=>by simp[CV.flatv]at hu
  | .fn _,cs,hu,_=>by simp[CV.flatv]at hu
  | .nilp,cs,hu,_=>by simp[CV.flatv]at hu
  | .nilf,cs,hu,_=>by simp[CV.flatv]at hu
  | .nili,cs,hu,_=>by simp[CV.flatv]at hu
  | .nilm,cs,hu,_=>by simp[CV.flatv]at hu
  | .ifc _ _,cs,hu,_=>by simp[CV.flatv]at hu
theorem rG {w w':World}{O O':Nat→Prop}: ∀{l:List CV} {cs:List Value},CV.flatvL l=true→RepL w O l cs→RepL w' O' l cs
  |[],cs,_,h=>by simpa only[RepL]using h
  |v::l,cs,hu,h=>by
    simp only[RepL,CV.flatvL,Bool.and_eq_true]at h hu⊢;obtain⟨c1,c2,h1,h2,h3⟩:=h;exact⟨c1,c2,h1,oH hu.1 h2,rG hu.2 h3⟩
end
variable {l:List CV}{v:CV}{sz:Nat}{e:TypeId}{f:FuncId}{P:Program}
theorem zR {g:FuncId}(hv:v.flatv=true)(h:aQ1 P f g T v l R):
    HFn P f [.own 1 l.length,.clo g [.ptr 0 0]] 2 (fob [(0,.box T (.c v)),(1,.row e sz l)]) (fun r ob'=> ∃u,r= .c u∧ob'=fob [(0,.box T (.c v)),(1,.row e sz l)]∧R u):=by
  refine⟨h.1,fun w ρ X xs hS hA hX=>?_⟩
  let ρc:Env:=fun i=>if i=1 then none else ρ i
  have hρc: ∀i L,ρc i=some L→ρ i=some L∧i≠1:=fun i L hL=>by
    simp only[ρc]at hL;split at hL
    · cases hL
    · exact⟨hL,by assumption⟩
  have hownc: ∀b,Own ρc b→Own ρ b:=fun b ⟨i,L,h1,h2⟩=>⟨i,L,(hρc i L h1).1,h2⟩;have hst:Stay w (Owned ρ X) w (Owned ρc X):=Stay.same (fun b _ hb=>hb.imp (fun x=>x) (hownc b));have hmv: ∀M,Moves M ρ ρc:=fun M i L _ hL=>⟨L,(hρc i L hL).1,.inl rfl⟩;obtain⟨hd,ys,hρ1,hl,hcs,how⟩:=hS.objs 1 (.row e sz l) rfl;have hSc:RepS w ρc X (fob [(0,.box T (.c v))]):=by
    refine⟨fun i o ho=>?_,fun i hi=>?_,fun i j L L' b h1 h2=>hS.apart i j L L' b (hρc _ _ h1).1 (hρc _ _ h2).1,fun i L b h1=>hS.xb i L b (hρc _ _ h1).1⟩
    · simp only[fob_at,fob_nil]at ho
      split at ho
      · rename_i e;subst e
        cases ho;exact RepO.stay (M:=fun _=>True) hst (hmv _) (by simp[HO.men,HV.men]) rfl (fun _ _ _ _=>rfl) (hS.objs 0 _ rfl)
      · cases ho
    · simp only[ρc]
      split
      · rfl
      · rename_i h1
        refine hS.none i ?_;simp only[fob_at,fob_nil]at hi⊢;split at hi
        · cases hi
        · simp[*]
  have hA2:RepHV w ρc (Owned ρc X) [.c (.slc l),.clo g [.ptr 0 0]] xs:=by
    rw[bP]at hA⊢;obtain⟨y,zs,rfl,hy,hz⟩:=hA;refine⟨y,zs,rfl,?_,RepHV.stay (M:=fun _=>True) hst (hmv _) (by simp[HV.menL,HV.men]) hz⟩;obtain⟨hy1,hy2⟩:=hy;have hag:Value.isAgg' y=false:=by rw[←hy2];rfl
    rw[cells_single hag]at hy1;simp only[RepH,List.cons.injEq,and_true]at hy1;obtain⟨x,rfl,hx1,hx2⟩:=hy1;obtain⟨q1,q2⟩:=hx2 hd hρ1;have hrc:RepC w (Owned ρc X) (.slc l) [y]:=by
      simp only[RepC];rcases how.2 with⟨rfl,hz⟩|⟨g',cap,cur,rfl,hg0,hg,hcap,_⟩
      · have:=q2 (by simp[hlen,hz])
        exact⟨none,0,ys,sz,by rw[this,hz],hl.stay hst,hcs,by omega,fun _=>rfl,fun ad had=>(by cases had)⟩
      · have:=q2 (by simp[hlen])
        refine⟨some ⟨g',0,none⟩,cap,ys,sz,by rw[this],hl.stay hst,hcs,hcap,fun hh=>(by cases hh),fun ad had=>?_⟩;cases had;refine⟨how.cells (g:=g') rfl,fun _=>?_⟩;rintro(hx|⟨i,L,h4,h5⟩)
        · exact hS.xb 1 _ g' hρ1 rfl hx
        · obtain⟨h6,h7⟩:=hρc i L h4
          exact h7 (hS.apart i 1 L _ g' h6 hρ1 h5 rfl)
    exact⟨by simp only[RepH];rw[cells_single hag];exact hrc,hag.symm⟩
  refine(h.2 w ρc X xs hSc hA2 hX).mono ?_;rintro ex w' ⟨r,ob',ρ',x,rfl,⟨u,v',rfl,rfl,rfl,hu,hR⟩,hg⟩
  let ρn:Env:=fun i=>if i=1 then ρ 1 else ρ' i
  have hρ'1:ρ' 1=none:=hg.s.none 1 rfl;have hnb: ∀b,(Loc.hdr hd).has b→ ¬Own ρc b:=fun b hb ⟨i,L,h1,h2⟩=>by
    obtain⟨h6,h7⟩:=hρc i L h1;exact h7 (hS.apart i 1 L _ b h6 hρ1 h2 hb)
  have hblk: ∀b,(Loc.hdr hd).has b→w'.heap[b]? =w.heap[b]? :=fun b hb=>hg.stay.block b (Owned.lt hS hρ1 hb) (hnb b hb);have hnb': ∀b,(Loc.hdr hd).has b→ ¬Own ρ' b:=fun b hb ho=>(hg.stay.own b ho).elim (hnb b hb) (fun h=>absurd (Owned.lt hS hρ1 hb) (Nat.not_lt.2 h));have hownn: ∀b,Own ρn b↔(Own ρ' b∨(Loc.hdr hd).has b):=fun b=>by
    constructor
    · rintro⟨i,L,h1,h2⟩
      simp only[ρn]at h1;split at h1
      · rw[hρ1]at h1;cases h1;exact .inr h2
      · exact .inl ⟨i,L,h1,h2⟩
    · rintro(⟨i,L,h1,h2⟩|h2)
      · refine⟨i,L,?_,h2⟩
        simp only[ρn];split
        · rename_i e;subst e;rw[hρ'1]at h1;cases h1
        · exact h1
      · exact⟨1,_,by simp only[ρn,if_pos];exact hρ1,h2⟩
  have hs2:Stay2 w (Own ρ) w' (Own ρn):=by
    refine⟨fun b hb hO=>hg.stay.block b hb (fun h1=>hO (hownc b h1)),fun b hb=>?_,hg.stay.size,hg.stay.os,hg.stay.tape,hg.stay.output⟩;rcases(hownn b).1 hb with hb|hb
    · exact(hg.stay.own b hb).imp (hownc b) (fun x=>x)
    · exact .inl ⟨1,_,hρ1,hb⟩
  have hstn:Stay w (Owned ρ X) w' (Owned ρn X):=hs2.stay X;have hmvn:Moves (· <2) ρ ρn:=fun i L hi hL=>by
    simp only[ρn]at hL;split at hL
    · rename_i e;subst e;exact⟨L,hL,.inl rfl⟩
    · rename_i e
      have:i=0:=by omega
      subst this;obtain⟨L0,h1,h2⟩:=hg.moves 0 L (by omega) hL;exact⟨L0,(hρc 0 L0 h1).1,h2⟩
  have hst':Stay w' (Owned ρ' X) w' (Owned ρ' X):=⟨fun b _ hO=>⟨rfl,hO⟩⟩;refine⟨_,_,ρn,x,rfl,⟨u,rfl,rfl,hR⟩,⟨by simpa only[RepH]using oH hu (by simpa only[RepH]using hg.v.1),hg.v.2⟩,⟨fun i o ho=>?_,fun i hi=>?_,fun i j L L' b h1 h2 h3 h4=>?_,fun i L b h1 h2 hx=>?_⟩,by simp[HV.men],fun i o ho=>?_,hs2,hmvn⟩
  · simp only[fob_at,fob_nil]at ho
    split at ho
    · rename_i e;subst e
      cases ho;obtain⟨b',cs',f1,f2,f3⟩:=hg.s.objs 0 _ rfl;refine⟨b',cs',by simp only[ρn];exact f1,f2,?_⟩;simp only[RepH]at f3⊢;exact oH hv f3
    · split at ho
      · rename_i e;subst e
        cases ho;exact RepO.stay (M:=(· <2)) hstn hmvn trivial (by simp only[ρn,if_pos]) (fun L b h1 h2=>by rw[hρ1]at h1;cases h1;exact hblk b h2) (hS.objs 1 _ rfl)
      · cases ho
  · simp only[fob_at,fob_nil]at hi
    split at hi
    · cases hi
    · split at hi
      · cases hi
      · simp only[ρn]
        rw[if_neg (by assumption)];refine hg.s.none i ?_;simp[fob_at,fob_nil, *]
  · have norm: ∀i L,ρn i=some L→(i=1∧L= .hdr hd)∨(i≠1∧ρ' i=some L):=fun i L hL=>by
      simp only[ρn]at hL;split at hL
      · rename_i e;subst e;rw[hρ1]at hL;cases hL;exact .inl ⟨rfl,rfl⟩
      · exact .inr ⟨by assumption,hL⟩
    rcases norm i L h1 with⟨rfl,rfl⟩|⟨n1,e1⟩<;>rcases norm j L' h2 with⟨rfl,rfl⟩|⟨n2,e2⟩
    · rfl
    · exact absurd ⟨j,L',e2,h4⟩ (hnb' b h3)
    · exact absurd ⟨i,L,e1,h3⟩ (hnb' b h4)
    · exact hg.s.apart i j L L' b e1 e2 h3 h4
  · simp only[ρn]at h1
    split at h1
    · rename_i e;subst e;exact hS.xb 1 L b h1 h2 hx
    · exact hg.s.xb i L b h1 h2 hx
  · simp only[fob_at,fob_nil]at ho
    split at ho
    · rename_i e;subst e;cases ho;exact⟨by omega,by simp[HO.men,HV.men]⟩
    · split at ho
      · rename_i e;subst e;cases ho;exact⟨by omega,trivial⟩
      · cases ho
theorem xK {o:HO}(hfree:Free4 ob nid):bU ob [id] nid (fob [(0,o)])=upd ob id (some (o.ren (sub [id] nid))):=by
  funext i;by_cases e:i=id
  · subst e
    simp only[bU,bC,List.findIdx?_cons,beq_self_eq_true,if_true,fob_at,Option.map_some]
  · have e':(id==i)=false:=by simp;exact fun h=>e h.symm
    simp only[bU,List.findIdx?_cons,e',List.findIdx?_nil,Option.map_none,bL _ _ e];simp only[Bool.false_eq_true,if_false];split
    · rename_i hr
      have h1:[id].length+(i-nid)≠0:=by simp
      rw[fob_at,if_neg h1,fob_nil];exact(hfree.all i hr.1 hr.2).symm
    · rfl
variable {K:HV→Ob→Prop}{av:List Nat}
theorem xL {g:FuncId}{id2 n:Nat}(h:aQ1 P f g T v l R)(hv:v.flatv=true)(hid:ob id=some (.row e sz l))(hid2:ob id2=some (.box T (.c v)))
    (hn:n=l.length) (hav:id∉av∧id2∉av) (hfree:Free4 ob nid) (hK: ∀u,R u→K (.c u) ob):HCall P av f [.own id n,.clo g [.ptr id2 0]] ob nid K:=by
  have hne:id≠id2:=by rintro rfl;rw[hid]at hid2;cases hid2
  have h0:sub [id2,id] nid 0=id2:=rfl;have h1:sub [id2,id] nid 1=id:=rfl;subst hn;have hloc:LocOk 2 [HV.own 1 l.length,.clo g [.ptr 0 0]] (fob [(0,.box T (.c v)),(1,.row e sz l)]):=by
    refine⟨fun j h=>?_,fun id o h=>?_,by simp[HV.menL,HV.men]⟩
    · have:j=0∨j=1:=by omega
      rcases this with rfl|rfl
      · exact⟨_,rfl⟩
      · exact⟨_,rfl⟩
    · simp only[fob_at,fob_nil]at h
      split at h
      · rename_i e;subst e;cases h;exact⟨by omega,by simp[HO.men,HV.men]⟩
      · split at h
        · rename_i e;subst e;cases h;exact⟨by omega,trivial⟩
        · cases h
  refine⟨[id2,id],_,_,_,zR (e:=e) (sz:=sz) hv h,hloc,⟨by simp[Ne.symm hne],by simpa using hav.symm⟩,by simp only[HV.renL,HV.ren,h0,h1],fun j o hj=>?_,fun r lob' hR _=>?_⟩
  · simp only[fob_at,fob_nil]at hj
    split at hj
    · rename_i e;subst e;cases hj;simpa[HO.ren,HV.ren]using hid2
    · split at hj
      · rename_i e;subst e;cases hj;simpa[HO.ren]using hid
      · cases hj
  · obtain⟨u,rfl,rfl,hR⟩:=hR
    rw[fZ (by simp[Ne.symm hne]) (fun j hj=>?_) (fun j hj=>?_) hfree.all]
    · exact hK u hR
    · have:j=0∨j=1:=by simp at hj;omega
      rcases this with rfl|rfl
      · exact⟨_,rfl,by simpa[HO.ren,HV.ren]using hid2⟩
      · exact⟨_,rfl,by simpa[HO.ren]using hid⟩
    · simp only[List.length_cons,List.length_nil]at hj
      rw[fob_at,if_neg (by omega),fob_at,if_neg (by omega)];rfl
variable {k:List UInt8}{D:MD}
theorem aQ4 (h:aQ2 P f e sz l R)(hk:cC D k=some (.row l)):
    HFn P f [.mrow 0 k l.length] 1 (fob [(0,.mp e sz D)]) (fun r ob'=> ∃u,r= .c u∧ob'=fob [(0,.mp e sz (dN D k .lent))]∧R u):=by
  refine⟨h.1,fun w ρ X xs hS hA hX=>?_⟩;obtain⟨b,hf,hρ0,hM⟩:=hS.objs 0 (.mp e sz D) rfl;have hρi: ∀i,i≠0→ρ i=none:=fun i hi=>hS.none i (by rw[fob_at,if_neg hi,fob_nil]);obtain⟨hd,hhd,hlen,hone⟩:=aX0 hM (k:=k) (by rw[hk];simp);obtain⟨hnb,ys,hl,hcs,how⟩:=hM.row k hd hhd;rw[hk]at hlen hl hcs how;simp only[dE]at hlen hl hcs how
  let ρc:Env:=fun i=>if i=0 then some (.hdr hd)else none
  let X':Nat→Prop:=fun g=>X g∨g=b∨ ∃k' h',k'≠k∧hf k'=some h'∧h'.ownBlock=some g
  have hown0: ∀g,Own ρc g↔hd.ownBlock=some g:=fun g=>by
    constructor
    · rintro⟨i,L,h1,h2⟩
      simp only[ρc]at h1;split at h1
      · cases h1;exact h2
      · cases h1
    · exact fun h1=>⟨0,_,rfl,h1⟩
  have hownρ: ∀g,Own ρ g↔(Loc.mp b hf).has g:=fun g=>by
    constructor
    · rintro⟨i,L,h1,h2⟩
      by_cases hi:i=0
      · subst hi;rw[hρ0]at h1;cases h1;exact h2
      · rw[hρi i hi]at h1;cases h1
    · exact fun h1=>⟨0,_,hρ0,h1⟩
  have howned: ∀g,Owned ρc X' g→Owned ρ X g:=by
    rintro g ((hx|rfl|⟨k',h',_,h2,h3⟩)|hg)
    · exact .inl hx
    · exact .inr ((hownρ g).2 (.inl rfl))
    · exact .inr ((hownρ g).2 (.inr ⟨k',h',h2,h3⟩))
    · exact .inr ((hownρ g).2 (.inr ⟨k,hd,hhd,(hown0 g).1 hg⟩))
  have hst:Stay w (Owned ρ X) w (Owned ρc X'):=Stay.same (fun g _ hg=>howned g hg);have hSc:RepS w ρc X' (fob [(0,.row e sz l)]):=by
    refine⟨fun i o ho=>?_,fun i hi=>?_,fun i j L L' g h1 h2 _ _=>?_,fun i L g h1 h2=>?_⟩
    · simp only[fob_at,fob_nil]at ho
      split at ho
      · rename_i e0;subst e0;cases ho
        exact⟨hd,ys,rfl,hl.stay hst,hcs,how⟩
      · cases ho
    · simp only[ρc]
      split
      · rename_i e0;subst e0;simp[fob_at]at hi
      · rfl
    · have hi:i=0:=by simp only[ρc]at h1;split at h1;assumption;cases h1
      have hj:j=0:=by simp only[ρc]at h2;split at h2;assumption;cases h2
      rw[hi,hj]
    · simp only[ρc]at h1
      split at h1
      · cases h1
        rintro(hx|rfl|⟨k',h',h3,h4,h5⟩)
        · exact hS.xb 0 _ g hρ0 (.inr ⟨k,hd,hhd,h2⟩) hx
        · exact hnb h2
        · exact h3 (hM.apart k' k h' hd g h4 hhd h5 h2)
      · cases h1
  have hA2:RepHV w ρc (Owned ρc X') [.own 0 l.length] xs:=by
    rw[bP]at hA⊢;obtain⟨y,zs,rfl,hy,hz⟩:=hA;refine⟨y,zs,rfl,?_,by simpa only[RepHV]using hz⟩;obtain⟨hy1,hy2⟩:=hy;have hag:Value.isAgg' y=false:=by rw[←hy2];rfl
    rw[cells_single hag]at hy1;simp only[RepH,List.cons.injEq,and_true]at hy1;obtain⟨x,rfl,hx1,hx2⟩:=hy1;obtain⟨q1,q2⟩:=hx2 b hf hd hρ0 hhd;refine cM ?_ rfl hag;simp only[RepH];refine⟨y,rfl,hx1,fun h' hh=>?_⟩;simp only[ρc,if_true,Option.some.injEq,Loc.hdr.injEq]at hh;subst hh;exact⟨q1,q2⟩
  have hX2: ∀g,X' g→g<w.heap.size:=by
    rintro g (hx|rfl|⟨k',h',_,h2,h3⟩)
    · exact hX g hx
    · exact hM.lt g (.inl rfl)
    · exact hM.lt g (.inr ⟨k',h',h2,h3⟩)
  refine(h.2 w ρc X' xs hSc hA2 hX2).mono ?_;rintro ex w' ⟨r,ob',ρ',x,rfl,⟨u,rfl,rfl,hR⟩,hg⟩;have hρ': ∀i,ρ' i=none:=fun i=>hg.s.none i rfl
  let hf':List UInt8→Option Value:=fun k'=>if k'=k then none else hf k'
  let ρn:Env:=fun i=>if i=0 then some (.mp b hf')else none
  have hf'o: ∀k' h',hf' k'=some h'→k'≠k∧hf k'=some h':=fun k' h' hh=>by
    simp only[hf']at hh;split at hh
    · cases hh
    · exact⟨by assumption,hh⟩
  have hownn: ∀g,Own ρn g→(Loc.mp b hf').has g:=by
    rintro g ⟨i,L,h1,h2⟩;simp only[ρn]at h1;split at h1
    · cases h1;exact h2
    · cases h1
  have hownX: ∀g,(Loc.mp b hf').has g→X' g∧Own ρ g:=by
    rintro g (rfl|⟨k',h',h2,h3⟩)
    · exact⟨.inr (.inl rfl),(hownρ g).2 (.inl rfl)⟩
    · obtain⟨h4,h5⟩:=hf'o k' h' h2
      exact⟨.inr (.inr ⟨k',h',h4,h5,h3⟩),(hownρ g).2 (.inr ⟨k',h',h5,h3⟩)⟩
  have hs2:Stay2 w (Own ρ) w' (Own ρn):=by
    refine⟨fun g hg' hO=>hg.stay.block g hg' (fun h1=>hO ((hownρ g).2 (.inr ⟨k,hd,hhd,(hown0 g).1 h1⟩))),fun g hg'=> .inl (hownX g (hownn g hg')).2,hg.stay.size,hg.stay.os,hg.stay.tape,hg.stay.output⟩
  have hstn:Stay w (Owned ρ X) w' (Owned ρn X):=hs2.stay X;have hst':Stay w' (Owned ρ' X') w' (Owned ρn X):=Stay.same (fun g _ hg'=>hg'.elim (fun hx=> .inl (.inl hx)) (fun hx=> .inl (hownX g (hownn g hx)).1));have hbnot: ¬Own ρc b:=fun hb=>hnb ((hown0 b).1 hb);have hMn:RepM w' (Owned ρn X) e sz (dN D k .lent) b hf':=by
    obtain⟨es,clock,hb,hs0,h4,h5⟩:=hM.blk;refine⟨⟨es,clock,by rw[hg.stay.block b (hM.lt b (.inl rfl)) hbnot];exact hb,hs0,fun z hz=>?_,fun k' m' hg' ht=>?_⟩,fun k' h' hk'=>?_,fun k'=>?_,fun k' h' hk' hn'=>?_,fun k1 k2 v1 v2 g e1 e2=>hM.apart k1 k2 v1 v2 g (hf'o _ _ e1).2 (hf'o _ _ e2).2⟩
    · obtain⟨k',m',e1,e2,e3,e4⟩:=h4 z hz
      by_cases hkk:k'=k
      · subst hkk;exact⟨k',.lent,bZ _ _ _,e2,e3,trivial⟩
      · refine⟨k',m',by rw[bS _ _ hkk];exact e1,e2,e3,?_⟩
        have:hf' k'=hf k':=if_neg hkk;rw[this];exact e4.stay hstn
    · by_cases hkk:k'=k
      · subst hkk;exact h5 k' _ hk rfl
      · rw[bS _ _ hkk]at hg';exact h5 k' m' hg' ht
    · obtain⟨h6,h7⟩:=hf'o _ _ hk'
      rw[bS _ _ h6];obtain⟨q1,zs,q2,q3,q4⟩:=hM.row k' h' h7;refine⟨q1,zs,q2.stay hstn,q3,eZ q4 (fun g hg'=>hg.stay.block g (q4.lt g hg').2 (fun ho=>h6 (hM.apart k' k h' hd g h7 hhd hg' ((hown0 g).1 ho))))⟩
    · by_cases hkk:k'=k
      · subst hkk;rw[bZ];simp[hf']
      · have:hf' k'=hf k':=if_neg hkk
        rw[this,bS _ _ hkk];exact hM.lent k'
    · obtain⟨h6,h7⟩:=hf'o _ _ hk'
      rw[bS _ _ h6]at hn';exact hM.nil k' h' h7 hn'
  refine⟨_,_,ρn,x,rfl,⟨u,rfl,rfl,hR⟩,⟨by have:=hg.v.1;simp only[RepH]at this⊢;exact this.stay hst',hg.v.2⟩,⟨fun i o ho=>?_,fun i hi=>?_,fun i j L L' g h1 h2 _ _=>?_,fun i L g h1 h2 hx=>?_⟩,by simp[HV.men],fun i o ho=>?_,hs2,fun i L hi hL=>?_⟩
  · simp only[fob_at,fob_nil]at ho
    split at ho
    · rename_i e0;subst e0;cases ho;exact⟨b,hf',rfl,hMn⟩
    · cases ho
  · simp only[ρn]
    split
    · rename_i e0;subst e0;simp[fob_at]at hi
    · rfl
  · have hi:i=0:=by simp only[ρn]at h1;split at h1;assumption;cases h1
    have hj:j=0:=by simp only[ρn]at h2;split at h2;assumption;cases h2
    rw[hi,hj]
  · simp only[ρn]at h1
    split at h1
    · cases h1
      have:=(hownX g h2).2;obtain⟨i',L',e1,e2⟩:=this;exact hS.xb i' L' g e1 e2 hx
    · cases h1
  · simp only[fob_at,fob_nil]at ho
    split at ho
    · rename_i e0;subst e0;cases ho;exact⟨by omega,trivial⟩
    · cases ho
  · have:i=0:=by omega
    subst this;simp only[ρn,if_true,Option.some.injEq]at hL;subst hL;exact⟨_,hρ0,.inr (.inr ⟨_,_,_,rfl,rfl,fun k' h' hk'=>⟨h',(hf'o k' h' hk').2,.inl rfl⟩⟩)⟩
theorem aI6 {n:Nat}(h:aQ2 P f e sz l R)(hid:ob id=some (.mp e sz D))(hk:cC D k=some (.row l))(hn:n=l.length)
    (hav:id∉av) (hfree:Free4 ob nid) (hK: ∀u,R u→K (.c u) (upd ob id (some (.mp e sz (dN D k .lent))))):HCall P av f [.mrow id k n] ob nid K:=by
  have h0:sub [id] nid 0=id:=rfl;subst hn;have hloc:LocOk 1 [HV.mrow 0 k l.length] (fob [(0,.mp e sz D)]):=by
    refine⟨fun j h=>?_,fun id o h=>?_,by simp[HV.menL,HV.men]⟩
    · have:j=0:=by omega
      subst this;exact⟨_,rfl⟩
    · simp only[fob_at,fob_nil]at h
      split at h
      · rename_i e;subst e;cases h;exact⟨by omega,trivial⟩
      · cases h
  refine⟨[id],_,_,_,aQ4 h hk,hloc,⟨by simp,by simpa using hav⟩,by simp only[HV.renL,HV.ren,h0],fun j o hj=>?_,fun r lob' hR _=>?_⟩
  · simp only[fob_at,fob_nil]at hj
    split at hj
    · rename_i e;subst e;cases hj;simpa[HO.ren]using hid
    · cases hj
  · obtain⟨u,rfl,rfl,hR⟩:=hR
    rw[xK hfree];exact hK u hR
end Go.Hl
namespace Go.Pl
open Go Go.Hl
theorem Rp.getO (p:Rp):CV.getAt 64 32 true p.cv=some (dg p.o):=by
  simp[Rp.cv,CV.getAt,CV.getAtL,CV.cells,CV.cellsL,dg_cells,dg_getAt]
theorem Rp.setAll (p:Rp)(x:HV):CV.setAt 0 97 x p.cv=some x:=by
  have:=Rp.cells p;simp only[Rp.cv,CV.cells]at this;simp only[Rp.cv,CV.setAt,this,and_self,if_true]
def lQ {α:Type}(p:α→Bool)(l:List α):Int:=match l.findIdx? p with|some i=>i|none=> -1
variable {i:Nat}{α:Type}
theorem aQ5 {p:α→Bool}{l:List α}(hi:i<l.length)(h:p l[i]=true)(h0: ∀x∈l.take i,p x=false):lQ p l=i:=by
  unfold lQ;have:l.findIdx? p=some i:=by
    rw[List.findIdx?_eq_some_iff_getElem];refine⟨hi,h,fun j hj=>?_⟩;have:=h0 (l[j]'(by omega)) (by rw[List.mem_take_iff_getElem];exact⟨j,by omega,rfl⟩);simp[this]
  rw[this]
theorem aI7 {p:α→Bool}{l:List α}(h0: ∀x∈l,p x=false):lQ p l= -1:=by
  unfold lQ;have:l.findIdx? p=none:=by rw[List.findIdx?_eq_none_iff];exact h0
  rw[this]
theorem aX7 {p:α→Bool}{l:List α}:(0≤lQ p l)↔l.any p=true:=by
  unfold lQ;cases h:l.findIdx? p with
  |none=>
    rw[List.findIdx?_eq_none_iff]at h;simp only[List.any_eq_true];constructor
    · intro h';omega
    · rintro⟨x,hx,hp⟩;rw[h x hx]at hp;cases hp
  |some i=>
    obtain⟨hi,hp,_⟩:=List.findIdx?_eq_some_iff_getElem.1 h;simp only[List.any_eq_true];exact⟨fun _=>⟨l[i],List.getElem_mem hi,hp⟩,fun _=>by omega⟩
theorem rH (p:α→Bool)(l:List α):(lQ p l= -1∧ ∀x∈l,p x=false)∨ ∃(i:Nat) (hi:i<l.length),lQ p l=i∧p l[i]=true∧ ∀x∈l.take i,p x=false:=by
  unfold lQ;cases h:l.findIdx? p with
  |none=>rw[List.findIdx?_eq_none_iff]at h;exact .inl ⟨rfl,h⟩
  |some i=>
    obtain⟨hi,hp,hj⟩:=List.findIdx?_eq_some_iff_getElem.1 h;refine .inr ⟨i,hi,rfl,hp,fun x hx=>?_⟩;obtain⟨j,hj',rfl⟩:=List.mem_take_iff_getElem.1 hx;have:=hj j (by omega);simpa using this
theorem aQ6 {p:α→Bool}{l r:List α}{j:Nat}(hr:r.length=l.length)(hij:i<j)(hj:j<l.length)(h1:r.take i=(l.take j).filter (fun x=>!p x))(h2:r.drop j=l.drop j):
    r[j]'(by omega)=l[j]∧(p l[j]=true→r.take i=(l.take (j+1)).filter (fun x=>!p x)∧r.drop (j+1)=l.drop (j+1))∧
    (p l[j]=false→(r.set i l[j]).take (i+1)=(l.take (j+1)).filter (fun x=>!p x)∧(r.set i l[j]).drop (j+1)=l.drop (j+1)):=by
  have hrj:r[j]'(by omega)=l[j]:=by
    have e1:(r.drop j)[0]? =(l.drop j)[0]? :=by rw[h2]
    rw[List.getElem?_drop,List.getElem?_drop,Nat.add_zero,List.getElem?_eq_getElem (by omega),List.getElem?_eq_getElem hj]at e1;exact Option.some.inj e1
  have e2:r.drop (j+1)=l.drop (j+1):=by
    rw[←List.drop_drop,←List.drop_drop,h2]
  have e3:l.take (j+1)=l.take j++[l[j]]:=List.take_succ_eq_append_getElem hj;refine⟨hrj,fun hp=>⟨?_,e2⟩,fun hp=>⟨?_,?_⟩⟩
  · rw[e3,List.filter_append,h1];simp[hp]
  · rw[e3,List.filter_append,←h1]
    rw[List.take_set,List.take_succ_eq_append_getElem (by omega)];simp only[List.filter_cons,hp,Bool.not_false,if_true,List.filter_nil];rw[List.set_append_right _ _ (by simp;omega)];have:i-(List.take i r).length=0:=by simp;omega
    rw[this];rfl
  · rw[List.drop_set_of_lt (by omega)];exact e2
def fV (a:Int)(l:List Rp):Int:=l.foldl (fun a r=>if r.at_>a then r.at_ else a) a
theorem zS (a:Int){l:List Rp}(h:i<l.length):fV a (l.take (i+1))=if l[i].at_>fV a (l.take i)then l[i].at_ else fV a (l.take i):=by
  rw[List.take_succ_eq_append_getElem h];simp only[fV,List.foldl_append,List.foldl_cons,List.foldl_nil];rfl
def cZ (l:List Rp):List Rp:=match l with
  |[]=>[]
  |x::_=>l.filter fun r=>r.at_==fV x.at_ l
theorem zT (l:List Rp)(h:0<l.length):cZ l=l.filter fun r=>r.at_==fV l[0].at_ l:=by
  cases l with
  |nil=>simp at h
  |cons x l=>rfl
end Go.Pl
namespace Go.Hl
open Go Go.RowKit
def leW (x y:List UInt8):Bool:=decide (x≤y)
def dQ (D:MD):List (List UInt8):=(D.map (·.1)).mergeSort leW
structure MOk (D:MD):Prop where
  nd:(D.map (·.1)).Nodup
  th: ∀p∈D,p.2.there=true
variable {k:List UInt8}{D:MD}
theorem xM {m:MV}(h:cC D k=some m):(k,m)∈D:=by
  induction D with
  |nil=>simp[cC]at h
  |cons p D ih=>
    obtain⟨k',m'⟩:=p;unfold cC at h;split at h
    · rename_i e;subst e;cases h;simp
    · exact List.mem_cons_of_mem _ (ih h)
theorem kF :(∃m,cC D k=some m)↔k∈D.map (·.1):=by
  constructor
  · rintro⟨m,h⟩;exact List.mem_map.2 ⟨_,xM h,rfl⟩
  · intro h
    induction D with
    |nil=>simp at h
    |cons p D ih=>
      obtain⟨k',m'⟩:=p;unfold cC;by_cases e:k'=k
      · exact⟨m',by simp[e]⟩
      · rw[if_neg e]
        simp only[List.map_cons,List.mem_cons]at h;exact ih (h.resolve_left (fun x=>e x.symm))
def gG :Value→List UInt8
  | .string s=>s.data.toList
  |_=>[]
theorem gN (k:List UInt8):gG (cX k)=k:=by simp[gG,cX]
variable {sz:Nat}{e kt:TypeId}{P:Program}
theorem aI8 (hkt:P.underlying kt=some .string){w:World}{O:Nat→Prop}{b:Nat}{hf:List UInt8→Option Value}(h:RepM w O e sz D b hf)(hD:MOk D)(hl:D.length≤maxLen):
    ∃(D0:DataW Unit),w.ownsMap P kt (fun _=>some (.nil,[])) b D.length D0∧(strKeys D0).Perm (D.map (·.1)):=by
  obtain⟨es,clock,h1,h2,h4,h5⟩:=h.blk
  let R:Value→Option (DataW Unit×List MemPlace):=fun _=>some (.nil,[])
  let K:=es.toList.map fun x=>gG x.key
  have hkey: ∀x∈es.toList,x.key=cX (gG x.key)∧keyOf P kt x.key=some (.string (gG x.key)):=fun x hx=>by
    obtain⟨k,m,e1,e2,e3,e4⟩:=h4 x hx;rw[e2,gN];refine⟨rfl,?_⟩;have hsz:(⟨k.toArray⟩:ByteArray).size=k.length:=by simp[ByteArray.size]
    simp[keyOf,hkt,mapKey,cX,hsz,e3]
  have hKk:K.map cX=es.toList.map (·.key):=by
    simp only[K,List.map_map];exact List.map_congr_left (fun x hx=>(hkey x hx).1.symm)
  have hKnd:K.Nodup:=by
    have:=h2.2.2;rw[←hKk]at this;exact(List.pairwise_map.1 this).imp (fun h e=>h (by rw[e]))
  have hKD:K.Perm (D.map (·.1)):=by
    rw[List.perm_ext_iff_of_nodup hKnd hD.nd];intro k;constructor
    · intro hk
      obtain⟨x,hx,rfl⟩:=List.mem_map.1 hk;obtain⟨k,m,e1,e2,_⟩:=h4 x hx;rw[e2,gN];exact kF.1 ⟨m,e1⟩
    · intro hk
      obtain⟨m,hm⟩:=kF.2 hk;obtain⟨x,hx,ek⟩:=h5 k m hm (hD.th _ (xM hm));exact List.mem_map.2 ⟨x,hx,by rw[ek,gN]⟩
  have hsz:es.size≤D.length:=by
    have:=hKD.length_eq;simp only[K,List.length_map,Array.length_toList]at this;omega
  have hrd: ∀x∈es.toList,Go.WideElems.rd P kt R x=some (.string (gG x.key),.nil):=fun x hx=>by
    simp[Go.WideElems.rd,(hkey x hx).2,R]
  refine⟨_,⟨es,clock,h1,⟨by omega,h2,fun x hx=>⟨_,hrd x hx⟩⟩,hsz,rfl⟩,?_⟩;simp only[strKeys];refine List.Perm.trans ?_ hKD;have hp:=(Go.WideShapes.sorted_perm (es.toList.map (Go.WideElems.rg P kt R))).map (fun p=>strOf p.1);refine hp.trans (List.Perm.of_eq ?_);simp only[K,List.map_map];refine List.map_congr_left (fun x hx=>?_);simp[Go.WideElems.rg,hrd x hx,strOf]
theorem aI9 {a b:List (List UInt8)}(h:a.Perm b):a.mergeSort leW=b.mergeSort leW:=by
  have tot: ∀x y:List UInt8,(leW x y||leW y x)=true:=fun x y=>by
    simp only[leW,Bool.or_eq_true,decide_eq_true_eq];exact List.le_total x y
  have tr: ∀x y z:List UInt8,leW x y=true→leW y z=true→leW x z=true:=fun x y z=>by
    simp only[leW,decide_eq_true_eq];exact List.le_trans
  refine List.Perm.eq_of_pairwise (le:=fun x y=>leW x y=true) (fun x y _ _ h1 h2=>?_) (List.pairwise_mergeSort tr tot a) (List.pairwise_mergeSort tr tot b) ((List.mergeSort_perm a _).trans (h.trans (List.mergeSort_perm b _).symm));simp only[leW,decide_eq_true_eq]at h1 h2;exact List.le_antisymm h1 h2
theorem tU {w:World}{O:Nat→Prop}: ∀(l:List (List UInt8)),RepL w O (l.map CV.str) (l.map cX)
  |[]=>by simp[RepL]
  |x::l=>by simp only[List.map_cons,RepL];exact⟨[cX x],_,rfl,by simp[RepC,cX],tU l⟩
variable {fi:FuncId}
theorem zU {fs:FuncId}{T:TypeId}(hok:dJ P fs=true)(hkt:P.underlying kt=some .string)(hD:MOk D)(hl:D.length≤2^40)
    (hc: ∀(B b nn:Nat) (D0:DataW Unit) (w:World),B<w.heap.size→w.cell? ⟨B,0,none⟩=some (.map (some b))→w.ownsMap P kt (fun _=>some (.nil,[])) b nn D0→(strKeys D0).length≤maxLen→(strKeys D0).length*16≤140737488355328→
      Calls P fs #[.func (.func fi) #[] #[.pointer (some ⟨B,0,none⟩)]] w fun x w'=> ∃(v:Value) (ss:List (List UInt8)),x= .returned v∧ss.Perm (strKeys D0)∧w'.ownsRow w.heap.size kt 1 v ss.length ((ss.mergeSort leW).map cX)∧(v= .slice none 0 0↔ss=[])∧Below w.heap.size w w'):
    HFn P fs [.clo fi [.ptr 1 0]] 2 (fob [(0,.mp e sz D),(1,.box T (.mapr 0))]) (fun r ob'=>r= .c (.slc ((dQ D).map .str))∧ob'=fob [(0,.mp e sz D),(1,.box T (.mapr 0))]):=by
  refine⟨mI hok,fun w ρ X xs hS hA hX=>Does.of hok ?_⟩;obtain⟨b,hf,hρ0,hM⟩:=hS.objs 0 (.mp e sz D) rfl;obtain⟨B,cs,hρ1,hB,hBr⟩:=hS.objs 1 (.box T (.mapr 0)) rfl;have hBs:B<w.heap.size:=(Array.getElem?_eq_some_iff.1 hB).1;simp only[RepH]at hBr;obtain⟨x,rfl,hx1,hx2⟩:=hBr;have hxe:=hx2 b hf hρ0;subst hxe;have hcell:w.cell? ⟨B,0,none⟩=some (.map (some b)):=by simp[World.cell?,hB]
  obtain⟨D0,hown,hperm⟩:=aI8 (P:=P) hkt hM hD (by simp only[maxLen];omega);have hargs:xs=[.func (.func fi) #[] #[.pointer (some ⟨B,0,none⟩)]]:=by
    rw[bP]at hA;obtain⟨y,zs,rfl,hy,hz⟩:=hA;simp only[RepHV]at hz;subst hz;obtain⟨hy1,hy2⟩:=hy;have hag:Value.isAgg' y=false:=by rw[←hy2];rfl
    rw[cells_single hag]at hy1;simp only[RepH,List.cons.injEq,and_true]at hy1;obtain⟨ys,rfl,hys⟩:=hy1;rw[bP]at hys;obtain⟨z,zs,rfl,hz,hzs⟩:=hys;simp only[RepHV]at hzs;subst hzs;obtain⟨hz1,hz2⟩:=hz;have hag2:Value.isAgg' z=false:=by rw[←hz2];rfl
    rw[cells_single hag2]at hz1;simp only[RepH,List.cons.injEq,and_true]at hz1;obtain⟨z',rfl,_,hz3⟩:=hz1;rw[hz3 B hρ1]
  subst hargs;have hlen:=hperm.length_eq;simp only[List.length_map]at hlen;refine(hc B b D.length D0 w hBs hcell hown (by rw[hlen];simp only[maxLen];omega) (by rw[hlen];omega)).mono ?_;rintro ex w' ⟨v,ss,rfl,hss,hrow,hnil,hb⟩;have hkeys:ss.mergeSort leW=dQ D:=aI9 (hss.trans hperm);rw[hkeys]at hrow;have hlss:ss.length=(dQ D).length:=by
    rw[←hkeys,(List.mergeSort_perm ss _).length_eq]
  have hs2:Stay2 w (Own ρ) w' (Own ρ):=⟨fun g hg _=>hb.block g hg,fun _ h=> .inl h,hb.size,hb.os,hb.tape,hb.output⟩;have hst:=hs2.stay X;have hblk: ∀i L g,ρ i=some L→L.has g→w'.heap[g]? =w.heap[g]? :=fun i L g h1 h2=>hb.block g (Owned.lt hS h1 h2);refine⟨_,_,ρ,v,rfl,⟨rfl,rfl⟩,⟨?_,⟨fun i o ho=>RepO.stay (M:=fun _=>True) hst (Moves.refl _ _) (by cases o<;>simp[HO.men]<;>first|exact HV.men_true _|exact HV.menL_true _) rfl (fun L g h1 h2=>hblk i L g h1 h2) (hS.objs i o ho),hS.none,hS.apart,hS.xb⟩,by simp[HV.men],fun i o ho=>?_,hs2,Moves.refl _ _⟩⟩
  · have hag:Value.isAgg' v=false:=by rcases hrow.2 with⟨rfl,_⟩|⟨g,cap,cur,rfl,_⟩<;>rfl
    refine cE ?_ rfl hag;simp only[RepC];rcases hrow.2 with⟨rfl,hz⟩|⟨g,cap,cur,rfl,hg0,hg,hcap,_⟩
    · have:dQ D=[]:=List.eq_nil_of_length_eq_zero (by rw[←hlss];exact hz)
      exact⟨none,0,[],1,by simp[this],by simp[this,RepL],by simp[this],by simp[this],fun _=>rfl,fun ad had=>(by cases had)⟩
    · refine⟨some ⟨g,0,none⟩,cap,(dQ D).map cX,1,by simp[hlss],tU _,fun u hu=>?_,by simp;omega,fun hh=>(by cases hh),fun ad had=>?_⟩
      · obtain⟨k,_,rfl⟩:=List.mem_map.1 hu;rfl
      · cases had
        refine⟨hrow.cells (g:=g) rfl,fun _=>?_⟩;rintro(hx|⟨i,L,h1,h2⟩)
        · have:g<w.heap.size:=hX g hx
          omega
        · have:g<w.heap.size:=Owned.lt hS h1 h2
          omega
  · simp only[fob_at,fob_nil]at ho
    split at ho
    · rename_i e;subst e;cases ho;exact⟨by omega,trivial⟩
    · split at ho
      · rename_i e;subst e;cases ho;exact⟨by omega,by simp[HO.men,HV.men]⟩
      · cases ho
theorem aQ7 {fk:FuncId}{T:TypeId}(hok:dJ P fk=true)
    (hc: ∀(b:Nat) (w:World),Calls P fk #[.map (some b)] w fun x w'=>x= .returned (.func (.func fi) #[] #[.pointer (some ⟨w.heap.size,0,none⟩)])∧w'=w.alloc (.cells #[.map (some b)] T)):
    HFn P fk [.mapr 0] 1 (fob [(0,.mp e sz D)]) (fun r ob'=>r= .clo fi [.ptr 1 0]∧ob'=fob [(0,.mp e sz D),(1,.box T (.mapr 0))]):=by
  refine⟨mI hok,fun w ρ X xs hS hA hX=>Does.of hok ?_⟩;obtain⟨b,hf,hρ0,hM⟩:=hS.objs 0 (.mp e sz D) rfl;have hargs:xs=[.map (some b)]:=by
    rw[bP]at hA;obtain⟨y,zs,rfl,hy,hz⟩:=hA;simp only[RepHV]at hz;subst hz;obtain⟨hy1,hy2⟩:=hy;have hag:Value.isAgg' y=false:=by rw[←hy2];rfl
    rw[cells_single hag]at hy1;simp only[RepH,List.cons.injEq,and_true]at hy1;obtain⟨x,rfl,_,hx2⟩:=hy1;rw[hx2 b hf hρ0]
  subst hargs;refine(hc b w).mono ?_;rintro ex w' ⟨rfl,rfl⟩
  let ρn:Env:=upd ρ 1 (some (.blk w.heap.size))
  have hρ1:ρ 1=none:=hS.none 1 rfl;have hown: ∀g,Own ρn g→Own ρ g∨w.heap.size≤g:=by
    rintro g ⟨i,L,h1,h2⟩;by_cases e:i=1
    · subst e;simp only[ρn,bC]at h1;cases h1;cases h2;exact .inr (Nat.le_refl _)
    · simp only[ρn,bL _ _ e]at h1;exact .inl ⟨i,L,h1,h2⟩
  have hheap: ∀g,g<w.heap.size→(w.alloc (.cells #[.map (some b)] T)).heap[g]? =w.heap[g]? :=fun g hg=>Below.heap_alloc _ _ _ hg;have hs2:Stay2 w (Own ρ) (w.alloc (.cells #[.map (some b)] T)) (Own ρn):=⟨fun g hg _=>hheap g hg,hown,by simp,rfl,rfl,rfl⟩;have hst:=hs2.stay X;have hmv:Moves (· <1) ρ ρn:=fun i L hi hL=>by
    have:i≠1:=by omega
    simp only[ρn,bL _ _ this]at hL;exact⟨L,hL,.inl rfl⟩
  have key: ∀i L,ρn i=some L→(i=1∧L= .blk w.heap.size)∨(i≠1∧ρ i=some L):=fun i L hL=>by
    by_cases e:i=1
    · subst e;simp only[ρn,bC]at hL;cases hL;exact .inl ⟨rfl,rfl⟩
    · simp only[ρn,bL _ _ e]at hL;exact .inr ⟨e,hL⟩
  refine⟨_,_,ρn,_,rfl,⟨rfl,rfl⟩,⟨?_,⟨fun i o ho=>?_,fun i hi=>?_,fun i j L L' g h1 h2 h3 h4=>?_,fun i L g h1 h2 hx=>?_⟩,by simp[HV.men,HV.menL],fun i o ho=>?_,hs2,hmv⟩⟩
  · refine cM ?_ rfl rfl
    simp only[RepH];refine⟨[.pointer (some ⟨w.heap.size,0,none⟩)],rfl,?_⟩;rw[bP];exact⟨_,_,rfl,iH (bC _ _ _),by simp[RepHV]⟩
  · simp only[fob_at,fob_nil]at ho
    split at ho
    · rename_i e;subst e
      cases ho;exact RepO.stay (M:=(· <1)) hst hmv trivial (bL _ _ (by decide)) (fun L g h1 h2=>hheap g (Owned.lt hS h1 h2)) (hS.objs 0 _ rfl)
    · split at ho
      · rename_i e;subst e
        cases ho;refine⟨w.heap.size,[.map (some b)],bC _ _ _,heap_alloc_new w _,?_⟩;simp only[RepH];refine⟨_,rfl,by simp[Value.oneCell'],fun b' hf' h1=>?_⟩;have:ρ 0=some (.mp b' hf'):=by simpa only[ρn,bL ρ _ (show(0:Nat)≠1 by decide)]using h1
        rw[hρ0]at this;cases this;rfl
      · cases ho
  · simp only[fob_at,fob_nil]at hi
    split at hi
    · cases hi
    · split at hi
      · cases hi
      · rename_i e0 e1
        simp only[ρn,bL _ _ e1];exact hS.none i (by simp[fob_at,fob_nil,e0])
  · rcases key i L h1 with⟨rfl,rfl⟩|⟨n1,e1⟩<;>rcases key j L' h2 with⟨rfl,rfl⟩|⟨n2,e2⟩
    · rfl
    · cases h3;have:=Owned.lt hS e2 h4;omega
    · cases h4;have:=Owned.lt hS e1 h3;omega
    · exact hS.apart i j L L' g e1 e2 h3 h4
  · rcases key i L h1 with⟨rfl,rfl⟩|⟨n1,e1⟩
    · cases h2;have:=hX _ hx;omega
    · exact hS.xb i L g e1 h2 hx
  · simp only[fob_at,fob_nil]at ho
    split at ho
    · rename_i e;subst e;cases ho;exact⟨by omega,trivial⟩
    · split at ho
      · rename_i e;subst e;cases ho;exact⟨by omega,by simp[HO.men,HV.men]⟩
      · cases ho
section
variable {P:Program}{av:List Nat}{f fi:FuncId}{ob:Ob}{nid id id2:Nat}{K:HV→Ob→Prop}{T e:TypeId}{sz:Nat}{D:MD}
def aQ8 (P:Program)(f fi:FuncId)(T e:TypeId)(sz:Nat)(D:MD):Prop:=HFn P f [.mapr 0] 1 (fob [(0,.mp e sz D)]) (fun r ob'=>r= .clo fi [.ptr 1 0]∧ob'=fob [(0,.mp e sz D),(1,.box T (.mapr 0))])
def vM (P:Program)(f fi:FuncId)(T e:TypeId)(sz:Nat)(D:MD):Prop:=HFn P f [.clo fi [.ptr 1 0]] 2 (fob [(0,.mp e sz D),(1,.box T (.mapr 0))]) (fun r ob'=>r= .c (.slc ((dQ D).map .str))∧ob'=fob [(0,.mp e sz D),(1,.box T (.mapr 0))])
theorem aJ0 (h:aQ8 P f fi T e sz D)(hid:ob id=some (.mp e sz D))(hav:id∉av)(hfree:Free4 ob nid)(hK:K (.clo fi [.ptr nid 0]) (upd ob nid (some (.box T (.mapr id))))):HCall P av f [.mapr id] ob nid K:=by
  have h0:sub [id] nid 0=id:=rfl;have h1:sub [id] nid 1=nid:=by simp[sub]
  have hloc:LocOk 1 [HV.mapr 0] (fob [(0,.mp e sz D)]):=by
    refine⟨fun j h=>?_,fun id o h=>?_,by simp[HV.menL,HV.men]⟩
    · have:j=0:=by omega
      subst this;exact⟨_,rfl⟩
    · simp only[fob_at,fob_nil]at h
      split at h
      · rename_i e;subst e;cases h;exact⟨by omega,trivial⟩
      · cases h
  refine⟨[id],_,_,_,h,hloc,⟨by simp,by simpa using hav⟩,by simp only[HV.renL,HV.ren,h0],fun j o hj=>?_,fun r lob' hR _=>?_⟩
  · simp only[fob_at,fob_nil]at hj
    split at hj
    · rename_i e;subst e;cases hj;simpa[HO.ren]using hid
    · cases hj
  · obtain⟨rfl,rfl⟩:=hR
    have e2:bU ob [id] nid (fob [(0,.mp e sz D),(1,.box T (.mapr 0))])=upd ob nid (some (.box T (.mapr id))):=by
      funext i;by_cases e:i=id
      · subst e
        have hne:i≠nid:=by rintro rfl;rw[hfree.1]at hid;cases hid
        rw[bL _ _ hne,hid];simp only[bU,List.findIdx?_cons,beq_self_eq_true,if_true,fob_at,Option.map_some,HO.ren]
      · have e':(id==i)=false:=by simp;exact fun h=>e h.symm
        simp only[bU,List.findIdx?_cons,e',List.findIdx?_nil,Option.map_none];simp only[Bool.false_eq_true,if_false];split
        · rename_i hr
          by_cases hin:i=nid
          · subst hin
            rw[bC];simp[fob_at,HO.ren,HV.ren,h0]
          · have h2:[id].length+(i-nid)≠0:=by simp
            have h3:[id].length+(i-nid)≠1:=by simp;omega
            rw[fob_at,if_neg h2,fob_at,if_neg h3,fob_nil,bL _ _ hin];exact(hfree.all i hr.1 hr.2).symm
        · rename_i hr
          have hin:i≠nid:=by omega
          rw[bL _ _ hin]
    rw[e2];simp only[HV.ren,HV.renL,h1];exact hK
theorem xN (h:vM P f fi T e sz D)(hid:ob id=some (.mp e sz D))(hid2:ob id2=some (.box T (.mapr id)))(hav:id∉av∧id2∉av)(hfree:Free4 ob nid)(hK:K (.c (.slc ((dQ D).map .str))) ob):HCall P av f [.clo fi [.ptr id2 0]] ob nid K:=by
  have hne:id≠id2:=by rintro rfl;rw[hid]at hid2;cases hid2
  have h0:sub [id,id2] nid 0=id:=rfl;have h1:sub [id,id2] nid 1=id2:=rfl;have hloc:LocOk 2 [HV.clo fi [.ptr 1 0]] (fob [(0,.mp e sz D),(1,.box T (.mapr 0))]):=by
    refine⟨fun j h=>?_,fun id o h=>?_,by simp[HV.menL,HV.men]⟩
    · have:j=0∨j=1:=by omega
      rcases this with rfl|rfl
      · exact⟨_,rfl⟩
      · exact⟨_,rfl⟩
    · simp only[fob_at,fob_nil]at h
      split at h
      · rename_i e;subst e;cases h;exact⟨by omega,trivial⟩
      · split at h
        · rename_i e;subst e;cases h;exact⟨by omega,by simp[HO.men,HV.men]⟩
        · cases h
  refine⟨[id,id2],_,_,_,h,hloc,⟨by simp[hne],by simpa using hav⟩,by simp only[HV.renL,HV.ren,h1],fun j o hj=>?_,fun r lob' hR _=>?_⟩
  · simp only[fob_at,fob_nil]at hj
    split at hj
    · rename_i e;subst e;cases hj;simpa[HO.ren]using hid
    · split at hj
      · rename_i e;subst e;cases hj;simpa[HO.ren,HV.ren,h0]using hid2
      · cases hj
  · obtain⟨rfl,rfl⟩:=hR
    rw[fZ (by simp[hne]) (fun j hj=>?_) (fun j hj=>?_) hfree.all]
    · exact hK
    · have:j=0∨j=1:=by simp at hj;omega
      rcases this with rfl|rfl
      · exact⟨_,rfl,by simpa[HO.ren]using hid⟩
      · exact⟨_,rfl,by simpa[HO.ren,HV.ren,h0]using hid2⟩
    · simp only[List.length_cons,List.length_nil]at hj
      rw[fob_at,if_neg (by omega),fob_at,if_neg (by omega)];rfl
end
theorem rI {w:World}{ρ ρ2:Env}{X:Nat→Prop}(hst:Stay w (Owned ρ X) w (Owned ρ2 X)): ∀{l:List CV} {xs:List Value},RepHV w ρ (Owned ρ X) (l.map .c) xs→RepHV w ρ2 (Owned ρ2 X) (l.map .c) xs
  |[],xs,h=>by simpa only[List.map_nil,RepHV]using h
  |v::l,xs,h=>by
    rw[List.map_cons,bP]at h⊢;obtain⟨y,ys,rfl,⟨h1,h2⟩,h3⟩:=h;exact⟨y,ys,rfl,⟨by simp only[RepH]at h1⊢;exact h1.stay hst,h2⟩,rI hst h3⟩
theorem lH {w:World}{ρ:Env}{O:Nat→Prop}: ∀{l1 l2:List HV} {xs:List Value},RepHV w ρ O (l1++l2) xs↔ ∃y1 y2,xs=y1++y2∧RepHV w ρ O l1 y1∧RepHV w ρ O l2 y2
  |[],l2,xs=>by simp only[List.nil_append,RepHV];exact⟨fun h=>⟨[],xs,rfl,rfl,h⟩,fun⟨y1,y2,h,h1,h2⟩=>by subst h1;subst h;exact h2⟩
  |v::l1,l2,xs=>by
    simp only[List.cons_append,bP,lH (l1:=l1)];constructor
    · rintro⟨y,ys,rfl,h1,a,b,rfl,h2,h3⟩
      exact⟨y::a,b,rfl,⟨y,a,rfl,h1,h2⟩,h3⟩
    · rintro⟨y1,y2,rfl,⟨y,ys,rfl,h1,h2⟩,h3⟩
      exact⟨y,ys++y2,rfl,h1,ys,y2,rfl,h2,h3⟩
variable {R:CV→Prop}{f:FuncId}
theorem vN {l pre post:List CV}(h:cL P f (pre++ .slc l::post) R):
    HFn P f (pre.map .c++ .own 0 l.length::post.map .c) 1 (fob [(0,.row e sz l)]) (fun r ob'=> ∃u,r= .c u∧ob'=cH∧R u):=by
  refine⟨h.1,fun w ρ X xs hS hA hX=>?_⟩;obtain⟨hd,ys,hρ0,hl,hcs,how⟩:=hS.objs 0 (.row e sz l) rfl
  let ρc:Env:=fun _=>none
  have hown: ∀b,¬Own ρc b:=fun b ⟨_,_,h1,_⟩=>by cases h1
  have hst:Stay w (Owned ρ X) w (Owned ρc X):=Stay.same (fun b _ hb=>hb.imp (fun x=>x) (fun h=>(hown b h).elim));have hSc:RepS w ρc X cH:=⟨fun _ _ h=>(by simp[cH]at h),fun _ _=>rfl,fun _ _ _ _ _ h=>(by cases h),fun _ _ _ h=>(by cases h)⟩;have hA2:RepHV w ρc (Owned ρc X) ((pre++ .slc l::post).map .c) xs:=by
    rw[List.map_append,List.map_cons];rw[lH]at hA⊢;obtain⟨y1,y2,rfl,h1,h2⟩:=hA;refine⟨y1,y2,rfl,rI hst h1,?_⟩;rw[bP]at h2⊢;obtain⟨y,zs,rfl,hy,hz⟩:=h2;refine⟨y,zs,rfl,?_,rI hst hz⟩;obtain⟨hy1,hy2⟩:=hy;have hag:Value.isAgg' y=false:=by rw[←hy2];rfl
    rw[cells_single hag]at hy1;simp only[RepH,List.cons.injEq,and_true]at hy1;obtain⟨x,rfl,hx1,hx2⟩:=hy1;obtain⟨q1,q2⟩:=hx2 hd hρ0;refine cE ?_ rfl hag;simp only[RepC];rcases how.2 with⟨rfl,hz0⟩|⟨g,cap,cur,rfl,hg0,hg,hcap,_⟩
    · have:=q2 (by simp[hlen,hz0])
      exact⟨none,0,ys,sz,by rw[this,hz0],hl.stay hst,hcs,by omega,fun _=>rfl,fun ad had=>(by cases had)⟩
    · have:=q2 (by simp[hlen])
      refine⟨some ⟨g,0,none⟩,cap,ys,sz,by rw[this],hl.stay hst,hcs,hcap,fun hh=>(by cases hh),fun ad had=>?_⟩;cases had;refine⟨how.cells (g:=g) rfl,fun _=>?_⟩;rintro(hx|hx)
      · exact hS.xb 0 _ g hρ0 rfl hx
      · exact hown _ hx
  refine(h.2 w ρc X xs hSc hA2 hX).mono ?_;rintro ex w' ⟨r,ob',ρ',x,rfl,⟨v,rfl,hR,rfl⟩,hg⟩;have hρ': ∀i,ρ' i=none:=fun i=>hg.s.none i rfl;refine⟨_,_,ρ',x,rfl,⟨v,rfl,rfl,hR⟩,hg.v,hg.s,by simp[HV.men],fun i o ho=>(by simp[cH]at ho),?_,fun i L _ hL=>(by rw[hρ' i]at hL;cases hL)⟩;exact⟨fun b hb _=>hg.stay.block b hb (hown b),fun b hb=>(hg.stay.own b hb).imp (fun h=>(hown b h).elim) (fun x=>x),hg.stay.size,hg.stay.os,hg.stay.tape,hg.stay.output⟩
theorem aE5 {m:Nat→Nat}: ∀(l:List CV),HV.renL m (l.map .c)=l.map .c
  |[]=>rfl
  |v::l=>by simp only[List.map_cons,HV.renL,HV.ren,aE5 l]
theorem pI {m:Nat→Nat}: ∀(l1 l2:List HV),HV.renL m (l1++l2)=HV.renL m l1++HV.renL m l2
  |[],l2=>rfl
  |v::l1,l2=>by simp only[List.cons_append,HV.renL,pI l1 l2]
theorem zV {av:List Nat}{ob:Ob}{nid id n:Nat}{K:HV→Ob→Prop}{l:List CV}(pre post:List CV)(h:cL P f (pre++ .slc l::post) R)(hid:ob id=some (.row e sz l))(hn:n=l.length)
    (hav:id∉av) (hfree:Free4 ob nid) (hK: ∀u,R u→K (.c u) (bY ob id)):HCall P av f (pre.map .c++ .own id n::post.map .c) ob nid K:=by
  have h0:sub [id] nid 0=id:=rfl;subst hn;have hloc:LocOk 1 (pre.map HV.c++HV.own 0 l.length::post.map HV.c) (fob [(0,.row e sz l)]):=by
    have:=rF e sz l.length l;refine⟨this.all,this.none,?_⟩;rw[HV.menL_append];exact⟨HV.menL_c,by simp only[HV.menL,HV.men];exact⟨by omega,HV.menL_c⟩⟩
  refine⟨[id],_,_,_,vN h,hloc,⟨by simp,by simpa using hav⟩,by simp only[pI,aE5,HV.renL,HV.ren,h0],fun j o hj=>?_,fun r lob' hR _=>?_⟩
  · simp only[fob_at,fob_nil]at hj
    split at hj
    · rename_i e;subst e;cases hj;simpa[HO.ren]using hid
    · cases hj
  · obtain⟨u,rfl,rfl,hR⟩:=hR
    rw[mP (lob:=cH) (id:=id) (by simp) rfl rfl (fun j hj0 hj=>?_) (fun j hj=>rfl) hfree.all]
    · exact hK u hR
    · simp at hj;omega
end Go.Hl
namespace Go.Pl
open Go Go.Hl
theorem Rb.getSub (x:Rb):CV.getAt 1 96 true x.cv=some (.agg [dg x.p.s,dg x.p.r,dg x.p.o]):=by
  simp[Rb.cv,Rp.cv,CV.getAt,CV.getAtL,CV.cells,CV.cellsL,dg_cells]
theorem Rb.getTime (x:Rb):CV.getAt 97 1 false x.cv=some (.int .i64 x.p.at_):=by
  simp[Rb.cv,Rp.cv,CV.getAt,CV.getAtL,CV.cells,CV.cellsL,dg_cells]
theorem zW (l:List CV):dE (some (.pend l))=l:=rfl
theorem oI (l:List CV):dE (some (.row l))=l:=rfl
theorem xO (l:List CV):nW (some (.pend l))=true:=rfl
theorem lR (l:List CV):lK (some (.row l))=true:=rfl
def aQ9 (D:MD)(x:Rb):MD:=dN D x.w (.row (dE (cC D x.w)++[x.p.cv]))
def grp (m:List Rb):MD:=m.foldl aQ9 []
def cK (m:List Rb)(w:aU):List Rp:=(m.filter fun x=>x.w==w).map (·.p)
theorem xP (m:List Rb)(x:Rb):grp (m++[x])=aQ9 (grp m) x:=by simp[grp,List.foldl_append]
theorem aR0 (D:MD)(k:aU)(v:MV):(dN D k v).map (·.1)=if k∈D.map (·.1)then D.map (·.1)else D.map (·.1)++[k]:=by
  induction D with
  |nil=>simp[dN]
  |cons p D ih=>
    obtain⟨k',v'⟩:=p;by_cases e:k'=k
    · simp[dN,e]
    · have e2: ¬k=k':=fun h=>e h.symm
      simp only[dN,e,if_false,List.map_cons,ih,List.mem_cons,e2,false_or];split<;>rfl
theorem aX8 (D:MD)(k:aU)(v:MV)(p:aU×MV)(h:p∈dN D k v):p∈D∨p=(k,v):=by
  induction D with
  |nil=>simp[dN]at h;exact .inr h
  |cons q D ih=>
    obtain⟨k',v'⟩:=q;by_cases e:k'=k
    · simp only[dN,e,if_true,List.mem_cons]at h
      rcases h with h|h
      · exact .inr h
      · exact .inl (List.mem_cons_of_mem _ h)
    · simp only[dN,e,if_false,List.mem_cons]at h
      rcases h with h|h
      · exact .inl (by rw[h];simp)
      · exact(ih h).imp (List.mem_cons_of_mem _) (fun x=>x)
theorem aX9 {D:MD}(h:MOk D)(k:aU){v:MV}(hv:v.there=true):MOk (dN D k v):=by
  refine⟨?_,fun p hp=>?_⟩
  · rw[aR0]
    split
    · exact h.nd
    · rename_i hk
      rw[List.nodup_append];refine⟨h.nd,by simp,fun a ha b hb=>?_⟩;simp only[List.mem_singleton]at hb;subst hb;intro e;subst e;exact hk ha
  · rcases aX8 D k v p hp with hp|rfl
    · exact h.th p hp
    · exact hv
theorem fB : ∀(m:List Rb),MOk (grp m)∧(grp m).length≤m.length∧ ∀w,cC (grp m) w=if cK m w=[]then none else some (.row ((cK m w).map Rp.cv)):=by
  intro m;induction m using List.reverseRecOn' with
  |nil=>exact⟨⟨by simp[grp],by simp[grp]⟩,by simp[grp],fun w=>by simp[grp,cC,cK]⟩
  |snoc m x ih=>
    obtain⟨h1,h2,h3⟩:=ih;rw[xP];refine⟨aX9 h1 _ rfl,?_,fun w=>?_⟩
    · unfold aQ9
      rw[wG];split<;>simp<;>omega
    · have hr:dE (cC (grp m) x.w)=(cK m x.w).map Rp.cv:=by
        rw[h3];split
        · rename_i h;rw[h];rfl
        · rfl
      have hs:cK (m++[x]) w=cK m w++if x.w==w then [x.p]else []:=by
        simp only[cK,List.filter_append,List.map_append,List.filter_cons,List.filter_nil];split<;>simp
      unfold aQ9;by_cases e:w=x.w
      · subst e
        rw[bZ,hr,hs];simp
      · have e2:(x.w==w)=false:=by simp;exact fun h=>e h.symm
        rw[bS _ _ e,h3,hs,e2];simp
where
  List.reverseRecOn' {α:Type} {C:List α→Prop} (m:List α) (nil:C []) (snoc: ∀m x,C m→C (m++[x])):C m:=by
    have: ∀r:List α,C r.reverse:=fun r=>by
      induction r with
      |nil=>exact nil
      |cons x r ih=>rw[List.reverse_cons];exact snoc _ _ ih
    have:=this m.reverse
    rwa [List.reverse_reverse]at this
theorem zX (m:List Rb)(w:aU):lK (cC (grp m) w)=true:=by
  rw[(fB m).2.2];split<;>rfl
theorem zY (m:List Rb)(w:aU):nW (cC (grp m) w)=true:=by
  rw[(fB m).2.2];split<;>rfl
theorem aY0 (m:List Rb)(w:aU):dE (cC (grp m) w)=(cK m w).map Rp.cv:=by
  rw[(fB m).2.2];split
  · rename_i h;rw[h];rfl
  · rfl
theorem rJ (m:List Rb)(w:aU):(cK m w).length≤m.length:=by
  simp only[cK,List.length_map];exact List.length_filter_le _ _
theorem zZ (m:List Rb)(w:aU):(dE (cC (grp m) w)).length≤m.length:=by
  rw[aY0,List.length_map];exact rJ m w
def fK (m:List Rb):List aU:=dQ (grp m)
theorem kG (m:List Rb):(fK m).Perm ((grp m).map (·.1)):=List.mergeSort_perm _ _
theorem vO (m:List Rb):(fK m).Nodup:=(kG m).nodup_iff.2 (fB m).1.nd
theorem aA0 (m:List Rb):(fK m).length≤m.length:=by
  rw[(kG m).length_eq,List.length_map];exact(fB m).2.1
variable {w:aU}{m:List Rb}
theorem rK :w∈fK m↔cK m w≠[]:=by
  rw[(kG m).mem_iff,←kF,(fB m).2.2];split
  · rename_i h;simp[h]
  · rename_i h;simp[h]
theorem aJ1 :cK m w≠[]↔ ∃x∈m,x.w=w:=by
  simp only[cK,ne_eq,List.map_eq_nil_iff,List.filter_eq_nil_iff,beq_iff_eq];constructor
  · intro h
    apply Classical.byContradiction;intro h2;exact h (fun x hx e=>h2 ⟨x,hx,e⟩)
  · rintro⟨x,hx,e⟩ h;exact h x hx e
def mQ (D:MD)(ks:List aU):MD:=ks.foldl (fun D k=>dN D k .lent) D
theorem tV (D:MD): ∀(ks:List aU) {w:aU},w∉ks→cC (mQ D ks) w=cC D w
  |[],w,_=>rfl
  |k::ks,w,h=>by
    simp only[List.mem_cons,not_or]at h;have:=tV (dN D k .lent) ks h.2;simp only[mQ,List.foldl_cons]at this⊢;rw[this,bS _ _ h.1]
variable {i:Nat}
theorem lS (D:MD){ks:List aU}(h:i<ks.length):mQ D (ks.take (i+1))=dN (mQ D (ks.take i)) ks[i] .lent:=rD _ _ _ _ h
theorem aA1 (m:List Rb)(h:i<(fK m).length):(fK m)[i]∉(fK m).take i:=by
  have hn:=vO m;intro hm;obtain⟨j,hj,e⟩:=List.mem_take_iff_getElem.1 hm;have:=(List.pairwise_iff_getElem.1 hn) j i (by omega) h (by omega);exact this e
theorem aJ2 (m:List Rb)(h:i<(fK m).length):cC (mQ (grp m) ((fK m).take i)) (fK m)[i]=some (.row ((cK m (fK m)[i]).map Rp.cv)):=by
  rw[tV _ _ (aA1 m h),(fB m).2.2,if_neg (rK.1 (List.getElem_mem h))]
theorem rL : ∀(l:List Rp) (a:Int),a≤fV a l∧(∀r∈l,r.at_≤fV a l)∧(fV a l=a∨ ∃r∈l,r.at_=fV a l)
  |[],a=>by simp[fV]
  |x::l,a=>by
    have ih:=rL l (if x.at_>a then x.at_ else a);simp only[fV,List.foldl_cons]at ih⊢;generalize hm:List.foldl (fun a r=>if r.at_>a then r.at_ else a) (if x.at_>a then x.at_ else a) l=mx at ih⊢;obtain⟨h1,h2,h3⟩:=ih;refine⟨by split at h1<;>omega,fun r hr=>?_,?_⟩
    · rcases List.mem_cons.1 hr with rfl|hr
      · split at h1<;>omega
      · exact h2 r hr
    · rcases h3 with h3|⟨r,hr,e⟩
      · split at h3
        · exact .inr ⟨x,by simp,h3.symm⟩
        · exact .inl h3
      · exact .inr ⟨r,List.mem_cons_of_mem _ hr,e⟩
theorem aJ3 {l:List Rp}(h:l≠[]):cZ l≠[]:=by
  cases l with
  |nil=>exact absurd rfl h
  |cons x l=>
    obtain⟨h1,h2,h3⟩:=rL (x::l) x.at_;intro e;have hx: ∃r∈x::l,r.at_=fV x.at_ (x::l):=by
      rcases h3 with h3|h3
      · exact⟨x,by simp,h3.symm⟩
      · exact h3
    obtain⟨r,hr,hra⟩:=hx;have:r∈cZ (x::l):=by simp only[cZ,List.mem_filter,beq_iff_eq];exact⟨hr,hra⟩
    rw[e]at this;simp at this
theorem aA2 (l:List Rp):(cZ l).length≤l.length:=by
  cases l with
  |nil=>exact Nat.le_refl _
  |cons x l=>exact List.length_filter_le _ _
def dR (m:List Rb)(o:Dig)(j:Jd)(w:aU):Jd:=
  match cZ (cK m w)with
  |[]=>j
  |x::rs=>if(x::rs).any (fun r=>!(r.o==x.o))then {j with f:=j.f++[w]}else if x.o==o then {j with a:=j.a++[w]}else {j with d:=j.d++[w]}
def iY (s r o:Dig)(t:Int)(l:List Rb):Jd:=(fK (l.filter (mO s r t))).foldl (dR (l.filter (mO s r t)) o) ⟨[],[],[]⟩
theorem oJ {o:Dig}{j:Jd}(h:0<(cZ (cK m w)).length):
    dR m o j w=if(cZ (cK m w)).any (fun r=>!(r.o==(cZ (cK m w))[0].o))then {j with f:=j.f++[w]}else if(cZ (cK m w))[0].o==o then {j with a:=j.a++[w]}else {j with d:=j.d++[w]}:=by
  unfold dR
  revert h
  generalize cZ (cK m w)=L;intro h;cases L with
  |nil=>simp at h
  |cons x rs=>rfl
theorem aA3 (m:List Rb)(o:Dig)(ks:List aU):let j:=ks.foldl (dR m o) ⟨[],[],[]⟩;j.a.length≤ks.length∧j.d.length≤ks.length∧j.f.length≤ks.length:=by
  have key: ∀(ks:List aU) (j:Jd) (n:Nat),j.a.length≤n∧j.d.length≤n∧j.f.length≤n→let k:=ks.foldl (dR m o) j;k.a.length≤n+ks.length∧k.d.length≤n+ks.length∧k.f.length≤n+ks.length:=by
    intro ks;induction ks with
    |nil=>intro j n h;simpa using h
    |cons x l ih=>
      intro j n h;have h1:(dR m o j x).a.length≤n+1∧(dR m o j x).d.length≤n+1∧(dR m o j x).f.length≤n+1:=by
        unfold dR;split
        · omega
        · split
          · simp only[List.length_append,List.length_singleton];omega
          · split<;>simp only[List.length_append,List.length_singleton]<;>omega
      have:=ih (dR m o j x) (n+1) h1;simp only[List.foldl_cons,List.length_cons]at this⊢;omega
  have:=key ks ⟨[],[],[]⟩ 0 (by simp);simpa using this
section
variable {s r o:Dig}{t:Int}{l:List Rb}
end
section
variable {s r o:Dig}{t:Int}{l l':List Rb}
end
section
variable {s r o d:Dig}{t:Int}{m:List Rb}{w:aU}
end
end Go.Pl
