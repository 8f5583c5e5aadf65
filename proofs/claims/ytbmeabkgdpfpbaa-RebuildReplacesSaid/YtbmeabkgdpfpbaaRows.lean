/-
  No cell of these rows narrows 'for every input' (looked for: loops, veiled, ifaces, maps, wideKeys, modest, calm, conditions, laid).
  DERIVED. THE GIVEN ROWS OF THIS SEAT. 5 by the template 'for every input the law returns true; each argument reads behind the call as it read before'; 0 by the template 'total and deterministic' (their statements: YtbmeabkgdpfpbaaTotals.lean).
  GIVEN WITH THE SEED: the statements are not yours to turn. If you find one false, say at which input.
  Laid BY PROGRAM, IN A SANDBOX (cutbox-rows.mjs): the forced cells as the released guide's own fill.sh prints them over the translation b8752b05a10600b4… (all of the seat's roots in one cut). By AI agents, Wed Nov 11 2026. No macro, syntax, notation, axiom, sorry.
-/
import Derived.Test.YtbmeabkgdpfpbaaChecked
import GoSem.Claim
import GoSem.ClaimJoined
import GoSem.ClaimMapViews
import Derived.JoinedTies
import Derived.KernelRfl
namespace Go.Proofs.Ytbmeabkgdpfpbaa
/- THE CELL 'sum', in the pinned program and in every row, IS THE sha256 OF THE DUMP (.gsa) THAT YtbmeabkgdpfpbaaProg.lean LOADS. Nothing in Lean hashes anything: it is a label: what it is worth is what the hold of that sum in a sandbox is worth. -/
noncomputable def Try.pinned : Pinned := { name := "ytbmeabkgdpfpbaa", sum := "b8752b05a10600b451ef91286e27ebc57ed62a7e57b0a99d31339145f46af663", checked := Try.checked }
namespace Rows
def none {H : Type} : Left H := { results := [], args := [] }

/-- 'admissionlaw18.RebuildJudges': WHATEVER THE INPUT: true; the input reads as it did. -/
def rebuildJudgesSpec : ChangeSpec := { name := "rebuildJudges", fn := fun _ => fun
  | [d1, d2, d3] => { results := [.lit (.bool true)], args := [d1, d2, d3] }
  | _ => none }
def rebuildJudgesRow : OpenClaim := { program := "ytbmeabkgdpfpbaa", sum := "b8752b05a10600b451ef91286e27ebc57ed62a7e57b0a99d31339145f46af663", func := "admission/admissionlaw18.RebuildJudges", spec := "rebuildJudges", unfollowed := true, recurses := true, apart := false }
def RebuildJudgesSaid : Prop := rebuildJudgesRow.holds Try.pinned (OpenSpec.ofChange rebuildJudgesSpec)

/-- ITS FALSE NEIGHBOUR: 'it returns false'. Refute it at one input. -/
def rebuildJudgesWrong : ChangeSpec := { name := "rebuildJudges", fn := fun _ => fun
  | [d1, d2, d3] => { results := [.lit (.bool false)], args := [d1, d2, d3] }
  | _ => none }
def RebuildJudgesWrongFalsely : Prop := rebuildJudgesRow.holds Try.pinned (OpenSpec.ofChange rebuildJudgesWrong)

/-- 'admissionlaw18.RebuildMade': WHATEVER THE INPUT: true; the input reads as it did. -/
def rebuildMadeSpec : ChangeSpec := { name := "rebuildMade", fn := fun _ => fun
  | [d] => { results := [.lit (.bool true)], args := [d] }
  | _ => none }
def rebuildMadeRow : OpenClaim := { program := "ytbmeabkgdpfpbaa", sum := "b8752b05a10600b451ef91286e27ebc57ed62a7e57b0a99d31339145f46af663", func := "admission/admissionlaw18.RebuildMade", spec := "rebuildMade", unfollowed := true, recurses := true, apart := false }
def RebuildMadeSaid : Prop := rebuildMadeRow.holds Try.pinned (OpenSpec.ofChange rebuildMadeSpec)

/-- ITS FALSE NEIGHBOUR: 'it returns false'. Refute it at one input. -/
def rebuildMadeWrong : ChangeSpec := { name := "rebuildMade", fn := fun _ => fun
  | [d] => { results := [.lit (.bool false)], args := [d] }
  | _ => none }
def RebuildMadeWrongFalsely : Prop := rebuildMadeRow.holds Try.pinned (OpenSpec.ofChange rebuildMadeWrong)

/-- 'admissionlaw18.RebuildOrder': WHATEVER THE INPUT: true; the input reads as it did. -/
def rebuildOrderSpec : ChangeSpec := { name := "rebuildOrder", fn := fun _ => fun
  | [d1, d2, d3] => { results := [.lit (.bool true)], args := [d1, d2, d3] }
  | _ => none }
def rebuildOrderRow : OpenClaim := { program := "ytbmeabkgdpfpbaa", sum := "b8752b05a10600b451ef91286e27ebc57ed62a7e57b0a99d31339145f46af663", func := "admission/admissionlaw18.RebuildOrder", spec := "rebuildOrder", unfollowed := true, recurses := true, apart := false }
def RebuildOrderSaid : Prop := rebuildOrderRow.holds Try.pinned (OpenSpec.ofChange rebuildOrderSpec)

/-- ITS FALSE NEIGHBOUR: 'it returns false'. Refute it at one input. -/
def rebuildOrderWrong : ChangeSpec := { name := "rebuildOrder", fn := fun _ => fun
  | [d1, d2, d3] => { results := [.lit (.bool false)], args := [d1, d2, d3] }
  | _ => none }
def RebuildOrderWrongFalsely : Prop := rebuildOrderRow.holds Try.pinned (OpenSpec.ofChange rebuildOrderWrong)

/-- 'admissionlaw18.RebuildReplaces': WHATEVER THE INPUT: true; the input reads as it did. -/
def rebuildReplacesSpec : ChangeSpec := { name := "rebuildReplaces", fn := fun _ => fun
  | [d1, d2] => { results := [.lit (.bool true)], args := [d1, d2] }
  | _ => none }
def rebuildReplacesRow : OpenClaim := { program := "ytbmeabkgdpfpbaa", sum := "b8752b05a10600b451ef91286e27ebc57ed62a7e57b0a99d31339145f46af663", func := "admission/admissionlaw18.RebuildReplaces", spec := "rebuildReplaces", unfollowed := true, recurses := true, apart := false }
def RebuildReplacesSaid : Prop := rebuildReplacesRow.holds Try.pinned (OpenSpec.ofChange rebuildReplacesSpec)

/-- ITS FALSE NEIGHBOUR: 'it returns false'. Refute it at one input. -/
def rebuildReplacesWrong : ChangeSpec := { name := "rebuildReplaces", fn := fun _ => fun
  | [d1, d2] => { results := [.lit (.bool false)], args := [d1, d2] }
  | _ => none }
def RebuildReplacesWrongFalsely : Prop := rebuildReplacesRow.holds Try.pinned (OpenSpec.ofChange rebuildReplacesWrong)

/-- 'admissionlaw18.RebuildHonest': WHATEVER THE INPUT: true; the input reads as it did. -/
def rebuildHonestSpec : ChangeSpec := { name := "rebuildHonest", fn := fun _ => fun
  | [d1, d2] => { results := [.lit (.bool true)], args := [d1, d2] }
  | _ => none }
def rebuildHonestRow : OpenClaim := { program := "ytbmeabkgdpfpbaa", sum := "b8752b05a10600b451ef91286e27ebc57ed62a7e57b0a99d31339145f46af663", func := "admission/admissionlaw18.RebuildHonest", spec := "rebuildHonest", unfollowed := true, recurses := true, apart := false }
def RebuildHonestSaid : Prop := rebuildHonestRow.holds Try.pinned (OpenSpec.ofChange rebuildHonestSpec)

/-- ITS FALSE NEIGHBOUR: 'it returns false'. Refute it at one input. -/
def rebuildHonestWrong : ChangeSpec := { name := "rebuildHonest", fn := fun _ => fun
  | [d1, d2] => { results := [.lit (.bool false)], args := [d1, d2] }
  | _ => none }
def RebuildHonestWrongFalsely : Prop := rebuildHonestRow.holds Try.pinned (OpenSpec.ofChange rebuildHonestWrong)

/- THE SECOND FORM. 'bulk': how many values and letters a reading holds, each counted each time it is reached (what is shared counts as often as it is met; a slice's spare places count too). A statement '..UptoSaid' is the law's where the arguments, and the package variables that the reading takes, are together of bulk at most 1048576: NARROWER than '..Said'. Prove '..Said' where nothing that the law and all that it calls make is longer than what came in: it says more and counts as full. Else prove '..UptoSaid'. A law counts once. -/
mutual
def uptoBulk {H : Type} : DataW H → Nat
  | .lit (.string bytes) => bytes.length + 1
  | .lit _ => 1
  | .nil => 1
  | .ptr d => uptoBulk d + 1
  | .slice elems spare => uptoBulkAll elems + uptoBulkAll spare + 1
  | .agg parts => uptoBulkAll parts + 1
  | .iface _ d => uptoBulk d + 1
  | .map entries => uptoBulkEntries entries + 1
  | .held _ => 1
def uptoBulkAll {H : Type} : List (DataW H) → Nat
  | [] => 0
  | d :: r => uptoBulk d + uptoBulkAll r
def uptoBulkEntries {H : Type} : List (Lit × DataW H) → Nat
  | [] => 0
  | x :: r => uptoBulkEntry x + uptoBulkEntries r
def uptoBulkEntry {H : Type} : Lit × DataW H → Nat
  | (.string bytes, d) => bytes.length + uptoBulk d + 1
  | (_, d) => uptoBulk d + 1
 end
def uptoSmall : (H : Type) → List (DataW H) → Bool := fun _ ds => decide (uptoBulkAll ds ≤ 1048576)
def OpenSpec.upto (s : _root_.Go.ChangeSpec) : _root_.Go.OpenSpec := { _root_.Go.OpenSpec.ofChange s with cond := some uptoSmall }

/-- 'admissionlaw18.RebuildJudges', WHERE WHAT IT READS IS OF BULK AT MOST 1048576: true; the input reads as it did. -/
def rebuildJudgesUptoRow : OpenClaim := { program := "ytbmeabkgdpfpbaa", sum := "b8752b05a10600b451ef91286e27ebc57ed62a7e57b0a99d31339145f46af663", func := "admission/admissionlaw18.RebuildJudges", spec := "rebuildJudges", unfollowed := true, recurses := true, apart := false, narrowed := true }
def RebuildJudgesUptoSaid : Prop := rebuildJudgesUptoRow.holds Try.pinned (OpenSpec.upto rebuildJudgesSpec)

/-- 'admissionlaw18.RebuildMade', WHERE WHAT IT READS IS OF BULK AT MOST 1048576: true; the input reads as it did. -/
def rebuildMadeUptoRow : OpenClaim := { program := "ytbmeabkgdpfpbaa", sum := "b8752b05a10600b451ef91286e27ebc57ed62a7e57b0a99d31339145f46af663", func := "admission/admissionlaw18.RebuildMade", spec := "rebuildMade", unfollowed := true, recurses := true, apart := false, narrowed := true }
def RebuildMadeUptoSaid : Prop := rebuildMadeUptoRow.holds Try.pinned (OpenSpec.upto rebuildMadeSpec)

/-- 'admissionlaw18.RebuildOrder', WHERE WHAT IT READS IS OF BULK AT MOST 1048576: true; the input reads as it did. -/
def rebuildOrderUptoRow : OpenClaim := { program := "ytbmeabkgdpfpbaa", sum := "b8752b05a10600b451ef91286e27ebc57ed62a7e57b0a99d31339145f46af663", func := "admission/admissionlaw18.RebuildOrder", spec := "rebuildOrder", unfollowed := true, recurses := true, apart := false, narrowed := true }
def RebuildOrderUptoSaid : Prop := rebuildOrderUptoRow.holds Try.pinned (OpenSpec.upto rebuildOrderSpec)

/-- 'admissionlaw18.RebuildReplaces', WHERE WHAT IT READS IS OF BULK AT MOST 1048576: true; the input reads as it did. -/
def rebuildReplacesUptoRow : OpenClaim := { program := "ytbmeabkgdpfpbaa", sum := "b8752b05a10600b451ef91286e27ebc57ed62a7e57b0a99d31339145f46af663", func := "admission/admissionlaw18.RebuildReplaces", spec := "rebuildReplaces", unfollowed := true, recurses := true, apart := false, narrowed := true }
def RebuildReplacesUptoSaid : Prop := rebuildReplacesUptoRow.holds Try.pinned (OpenSpec.upto rebuildReplacesSpec)

/-- 'admissionlaw18.RebuildHonest', WHERE WHAT IT READS IS OF BULK AT MOST 1048576: true; the input reads as it did. -/
def rebuildHonestUptoRow : OpenClaim := { program := "ytbmeabkgdpfpbaa", sum := "b8752b05a10600b451ef91286e27ebc57ed62a7e57b0a99d31339145f46af663", func := "admission/admissionlaw18.RebuildHonest", spec := "rebuildHonest", unfollowed := true, recurses := true, apart := false, narrowed := true }
def RebuildHonestUptoSaid : Prop := rebuildHonestUptoRow.holds Try.pinned (OpenSpec.upto rebuildHonestSpec)

end Rows
end Go.Proofs.Ytbmeabkgdpfpbaa
