/- DerivationProve: for any tape of numbers, any supports and either mode the law returns true and leaves them as they were: Prove answers as the reference's Prove does. The listed tables of the library are tied to the program's text by the card. By an AI agent. -/
import Derived.Test.YthedbjfipmkpiaaGreatDoorHdT5
import Derived.Test.YthedbjfipmkpiaaGreatDoorHdY8
import Derived.Lay
import Derived.SevenTiedAt
import Derived.Test.YthedbjfipmkpiaaGreatDoorRows
import Derived.Test.YthedbjfipmkpiaaGreatDoorCards
import Derived.Test.YthedbjfipmkpiaaGreatDoorTie
set_option linter.unusedSimpArgs false
set_option linter.unusedVariables false
set_option linter.defProp false
namespace Go.Proofs.YthedbjfipmkpiaaGreatDoor
open Go Go.Hl Go.Pl
set_option maxRecDepth 100000
theorem zK {W:World}(h:laidMetH Tryz.prog Rows.derivationProveRow.laid W):Lib.TabIs Tryz.prog W "internal/strconv.uint64pow10" .u64 Lib.pow10Tab:=by
  rw[MakeChecks.laidMetH_plain _ _ _ (by kernel_rfl)]at h;have h2:=laidMet.filter (fun x=>x.1== "internal/strconv.uint64pow10") h;have e:(Rows.derivationProveRow.laid.filter fun x=>x.1== "internal/strconv.uint64pow10")=[("internal/strconv.uint64pow10",Lib.tabData .u64 Lib.pow10Tab)]:=by kernel_rfl
  rw[e]at h2;exact Lib.tabIs_of_head aH4 (by kernel_rfl) Tryz.underlying199 Tryz.underlying135 (by kernel_rfl) (by kernel_rfl) h2
theorem lE (H:Type)(enc:TypeId×Value→H)(W:World)(args:Array Value)(ds gs:List (DataW H))(before:List MemPlace)
    (hL:laidMetH Tryz.prog Rows.derivationProveRow.laid W)
    (hval: ∀(j:Nat) t v,Tryz.f3.params[j]? =some t→args[j]? =some v→Value.okWide Tryz.prog W .any 0 t v)
    (hwt:(DataW.weightsEach Tryz.prog (Tryz.f3.params.toList++Rows.derivationProveSpec.plain.varTypes Tryz.prog) (ds++gs)).all (· ≤reachBytes)=true)
    (hW:DataW.Whole enc Tryz.prog Tryz.f3.params.toList Rows.derivationProveSpec.vars false W args.toList ds gs before):
    Calls Tryz.prog 3 args W fun e W'=> ∃v,e= .returned v∧Rows.derivationProveSpec.post enc Tryz.prog Tryz.f3 false true false false W args v W':=by
  refine bM9 (mm:=9) (tb:=4) (tabs:=tabs) (by kernel_rfl) cS4 aY4 rfl (by kernel_rfl) Tryz.underlying4 ?_ ?_ ?_ ?_ (fun j t v h1 h2=>?_) hwt hW
  · rw[Tryz.params3]
    intro H ds h
    match ds,h with
    |[c0,c1,c2],_=>exact⟨rfl,rfl,rfl⟩
  · rw[Tryz.params3]
    intro t ht;simp only[List.mem_cons,List.not_mem_nil,or_false]at ht;rcases ht with rfl|rfl|rfl
    · exact⟨by kernel_rfl,of_decide_eq_true (by kernel_rfl)⟩
    · exact⟨by kernel_rfl,of_decide_eq_true (by kernel_rfl)⟩
    · exact⟨by kernel_rfl,of_decide_eq_true (by kernel_rfl)⟩
  · rw[Tryz.params3]
    intro cs hn hty
    match cs,hn,hty with
    |[c0,c1,c2],_,hty=>
      obtain⟨L,rfl,_,_⟩:=cH6 (hty 0 _ c0 rfl rfl).1;obtain⟨R,rfl,h1,h2⟩:=cO3 (hty 1 _ c1 rfl rfl);obtain⟨wild,rfl⟩:=(hty 2 _ c2 rfl rfl).1.of_bool Tryz.underlying4;exact bM8 L R wild h1 h2
  · intro x hx
    simp only[tabs,List.mem_cons,List.not_mem_nil,or_false]at hx;rcases hx with rfl
    · exact zF aH4 (zK hL)
  · exact hval j t v h1 h2
open Go.ChangeShapes Go.WideShapes Go.ChangeAt Go.RowKit in
set_option maxRecDepth 100000 in
theorem mR (os:Os)(started:os.Started)(H:Type)(enc:TypeId×Value→H):
    ReturnsInHanded {} Tryz.checked os 3 .any (fun w args=>(Rows.derivationProveSpec.pre enc Tryz.prog Tryz.f3 [] false w args∧laidMetH Tryz.prog Rows.derivationProveRow.laid w)∧sizedMet enc Tryz.prog Tryz.f3 (OpenSpec.ofChange Rows.derivationProveSpec) false w args)
      (Rows.derivationProveSpec.post enc Tryz.prog Tryz.f3 false true false false):=by
  refine returnsInHanded_of_change_and (C:=Tryz.checked) (X:=fun w _=>laidMetH Tryz.prog Rows.derivationProveRow.laid w) (fun _ _ _ hh h=>h.of_heap hh) own started (by kernel_rfl) Tryz.func3
    (ChangeSpec.witness_shaped (enc:=enc) (C:=Tryz.checked) (os:=os) (X:=fun w _=>laidMetH Tryz.prog Rows.derivationProveRow.laid w) false (World.laidAll Tryz.prog os Rows.derivationProveRow.laid) #[.slice none 0 0,.slice none 0 0,.bool false] 8 (World.laidAll_os _ _ _)
      (World.shaped_of_ZipB (by kernel_rfl) (by kernel_rfl)) (by kernel_rfl) (by kernel_rfl) (by kernel_rfl)
      (by rw[MakeChecks.laidMetH_plain _ _ _ (by kernel_rfl)];exact laidMet_laidAll _ (by kernel_rfl) (by kernel_rfl))) ?_
  intro W base args ds gs before hval hW _ hwt hL _;exact lE H enc W args ds gs before hL (fun j t v h1 h2=>(hval j t v h1 h2)) hwt hW
theorem pD :Rows.DerivationProveSaid:=
  OpenClaim.holds_of_wide 3 Tryz.f3 rfl rfl rfl rfl rfl rfl rfl ⟨rfl,rfl,rfl,rfl,rfl⟩ rfl rfl rfl rfl rfl (by kernel_rfl) Tryz.func3 (by kernel_rfl)
    (of_decide_eq_true (by kernel_rfl)) (by unfold Func.isWrapper;first|(rw[if_pos (by decide+kernel)];kernel_rfl)|(rw[if_neg (by decide+kernel)];exact⟨rfl,rfl⟩))
    (fun os started H enc _=>mR os started H enc)
theorem derivationProve_said :Rows.DerivationProveCardSaid:=
  Claim7.holds_tied_plain_at .later [] [.data,.data,.data,.data,.pinned] true (true,"21008691179fbc5e685a549e14076cf73832ee6f24894afe5decf201da899196") false pD (fun _ h=>by cases h) (by kernel_rfl) (fun _ h=>by cases h) derivationProve_row_tie rfl ⟨rfl,rfl⟩ (by kernel_rfl) rfl
    (fun f fn hf hfn=>by
      obtain rfl:f=3:=Option.some.inj ((show Tryz.prog.funcNamed "admission/admissionlaw31.DerivationProve" =some 3 by kernel_rfl).symm.trans hf)|>.symm;obtain rfl:fn=Tryz.f3:=(Option.some.inj (Tryz.func3.symm.trans hfn)).symm;exact⟨by kernel_rfl,fun j t ht=>by
        rw[Tryz.params3]at ht;have hm:t∈[22,23,4]:=by simpa using Array.mem_of_getElem? ht
        have hall:([22,23,4].all fun u=>!Tryz.prog.wantsStandIn u)=true:=by kernel_rfl
        exact(show Tryz.prog.wantsStandIn t=false by simpa using List.all_eq_true.1 hall t hm)⟩)
    (by kernel_rfl)
#print axioms derivationProve_said
end Go.Proofs.YthedbjfipmkpiaaGreatDoor
