/- Part of a proof: walks of functions of the program, by contracts. By an AI agent. -/
import Derived.Shelf.SlIter.Nil
import Derived.Shelf.SortM.Plain
import Derived.Shelf.SortM.SortNone
import Derived.Ground.GgzProg
import Derived.Ground.SlgmProg
import Derived.Test.YtbmeabkgdpfpbaaHlTy
import Derived.Test.YtbmeabkgdpfpbaaHlZ
set_option linter.unusedSimpArgs false
set_option linter.unusedVariables false
namespace Go.Proofs.Ytbmeabkgdpfpbaa
open Go.RowKit Go.Maps Go.Sort Go.Shelf

def keys22_ren : Go.Shelf.Ren := ⟨fun | 7 => 22 | 10 => 32 | n => n, fun | 23 => 55 | 26 => 9 | 3 => 56 | 28 => 59 | 0 => 0 | 27 => 58 | 33 => 69 | 4 => 4 | n => n, fun | n => n⟩
theorem keys22 : Go.Proofs.SlLaysZ.n7 Try.prog keys22_ren := {
  mixed := by kernel_rfl
  f7 := ⟨Try.f22.name, by decide, Try.func22.trans (congrArg some (by kernel_rfl))⟩
  f10 := ⟨Try.f32.name, by decide, Try.func32.trans (congrArg some (by kernel_rfl))⟩
  t0 := Try.underlying0
  a0 := Try.isAgg0
  z0 := Try.sizeOf0
  v0 := Try.zeroValue0
  t4 := Try.underlying4
  a4 := Try.isAgg4
  z4 := Try.sizeOf4
  v4 := Try.zeroValue4
  t23 := Try.underlying55
  a23 := Try.isAgg55
  z23 := Try.sizeOf55
  v23 := Try.zeroValue55
  t26 := Try.underlying9
  a26 := Try.isAgg9
  z26 := Try.sizeOf9
  v26 := Try.zeroValue9
  t27 := Try.underlying58
  a27 := Try.isAgg58
  z27 := Try.sizeOf58
  v27 := Try.zeroValue58
  t28 := Try.underlying59
  a28 := Try.isAgg59
  z28 := Try.sizeOf59
  v28 := Try.zeroValue59
  t33 := Try.underlying69
  a33 := Try.isAgg69
  z33 := Try.sizeOf69
  v33 := Try.zeroValue69 }
def sorted21_ren : Go.Shelf.Ren := ⟨fun | 6 => 21 | 8 => 30 | 9 => 31 | 11 => 37 | 13 => 39 | 12 => 38 | 23 => 49 | 24 => 50 | 14 => 40 | 15 => 41 | 16 => 42 | 17 => 43 | 18 => 44 | 19 => 45 | 20 => 46 | 21 => 47 | 22 => 48 | 25 => 51 | 26 => 52 | 27 => 53 | 28 => 54 | 29 => 55 | 30 => 56 | 31 => 57 | n => n, fun | 26 => 9 | 28 => 59 | 24 => 28 | 0 => 0 | 3 => 3 | 37 => 76 | 48 => 87 | 50 => 89 | 4 => 4 | 40 => 79 | 39 => 78 | 45 => 84 | 5 => 5 | 9 => 9 | 51 => 90 | 55 => 94 | 57 => 96 | 58 => 97 | 33 => 69 | n => n, fun | n => n⟩
theorem sorted21 : Go.Proofs.SlLaysZ.n6 Try.prog sorted21_ren := {
  mixed := by kernel_rfl
  f6 := ⟨Try.f21.name, by decide, Try.func21.trans (congrArg some (by kernel_rfl))⟩
  f8 := ⟨Try.f30.name, by decide, Try.func30.trans (congrArg some (by kernel_rfl))⟩
  f11 := ⟨Try.f37.name, by decide, Try.func37.trans (congrArg some (by kernel_rfl))⟩
  t0 := Try.underlying0
  a0 := Try.isAgg0
  z0 := Try.sizeOf0
  v0 := Try.zeroValue0
  t24 := Try.underlying28
  a24 := Try.isAgg28
  z24 := Try.sizeOf28
  v24 := Try.zeroValue28
  t26 := Try.underlying9
  a26 := Try.isAgg9
  z26 := Try.sizeOf9
  v26 := Try.zeroValue9
  t28 := Try.underlying59
  a28 := Try.isAgg59
  z28 := Try.sizeOf59
  v28 := Try.zeroValue59
  i26 := by kernel_rfl }
def sort31_ren : Go.Shelf.Ren := ⟨fun | 6 => 31 | 8 => 39 | 9 => 38 | 19 => 49 | 20 => 50 | 21 => 40 | 22 => 41 | 23 => 42 | 24 => 43 | 25 => 44 | 26 => 45 | 27 => 46 | 28 => 47 | 29 => 48 | 36 => 51 | 31 => 52 | 32 => 53 | 37 => 54 | 38 => 55 | 39 => 56 | 41 => 57 | n => n, fun | 27 => 28 | 29 => 9 | 3 => 3 | 32 => 76 | 26 => 28 | 0 => 0 | 44 => 87 | 46 => 89 | 4 => 4 | 36 => 79 | 35 => 78 | 41 => 84 | 5 => 5 | 9 => 9 | 53 => 90 | 57 => 94 | 63 => 96 | 64 => 97 | n => n, fun | n => n⟩
theorem sort31 : Go.Proofs.SlLaysM.n6 Try.prog sort31_ren := {
  mixed := by kernel_rfl
  f6 := ⟨Try.f31.name, by decide, Try.func31.trans (congrArg some (by kernel_rfl))⟩
  f8 := Try.func39.trans (congrArg some (by kernel_rfl))
  f9 := ⟨Try.f38.name, by decide, Try.func38.trans (congrArg some (by kernel_rfl))⟩
  f19 := Try.func49.trans (congrArg some (by kernel_rfl))
  f20 := Try.func50.trans (congrArg some (by kernel_rfl))
  f21 := ⟨Try.f40.name, by decide, Try.func40.trans (congrArg some (by kernel_rfl))⟩
  f22 := ⟨Try.f41.name, by decide, Try.func41.trans (congrArg some (by kernel_rfl))⟩
  f23 := ⟨Try.f42.name, by decide, Try.func42.trans (congrArg some (by kernel_rfl))⟩
  f24 := ⟨Try.f43.name, by decide, Try.func43.trans (congrArg some (by kernel_rfl))⟩
  f25 := ⟨Try.f44.name, by decide, Try.func44.trans (congrArg some (by kernel_rfl))⟩
  f26 := ⟨Try.f45.name, by decide, Try.func45.trans (congrArg some (by kernel_rfl))⟩
  f27 := ⟨Try.f46.name, by decide, Try.func46.trans (congrArg some (by kernel_rfl))⟩
  f28 := ⟨Try.f47.name, by decide, Try.func47.trans (congrArg some (by kernel_rfl))⟩
  f29 := ⟨Try.f48.name, by decide, Try.func48.trans (congrArg some (by kernel_rfl))⟩
  f31 := Try.func52.trans (congrArg some (by kernel_rfl))
  f32 := Try.func53.trans (congrArg some (by kernel_rfl))
  f36 := ⟨Try.f51.name, by decide, Try.func51.trans (congrArg some (by kernel_rfl))⟩
  f37 := ⟨Try.f54.name, by decide, Try.func54.trans (congrArg some (by kernel_rfl))⟩
  f38 := ⟨Try.f55.name, by decide, Try.func55.trans (congrArg some (by kernel_rfl))⟩
  f39 := ⟨Try.f56.name, by decide, Try.func56.trans (congrArg some (by kernel_rfl))⟩
  f41 := ⟨Try.f57.name, by decide, Try.func57.trans (congrArg some (by kernel_rfl))⟩
  t0 := Try.underlying0
  a0 := Try.isAgg0
  z0 := Try.sizeOf0
  v0 := Try.zeroValue0
  t3 := Try.underlying3
  a3 := Try.isAgg3
  z3 := Try.sizeOf3
  v3 := Try.zeroValue3
  t4 := Try.underlying4
  a4 := Try.isAgg4
  z4 := Try.sizeOf4
  v4 := Try.zeroValue4
  t5 := Try.underlying5
  a5 := Try.isAgg5
  z5 := Try.sizeOf5
  v5 := Try.zeroValue5
  t9 := Try.underlying9
  a9 := Try.isAgg9
  z9 := Try.sizeOf9
  v9 := Try.zeroValue9
  t26 := Try.underlying28
  a26 := Try.isAgg28
  z26 := Try.sizeOf28
  v26 := Try.zeroValue28
  t27 := Try.underlying28
  a27 := Try.isAgg28
  z27 := Try.sizeOf28
  v27 := Try.zeroValue28
  t29 := Try.underlying9
  a29 := Try.isAgg9
  z29 := Try.sizeOf9
  v29 := Try.zeroValue9
  t32 := Try.underlying76
  a32 := Try.isAgg76
  z32 := Try.sizeOf76
  v32 := Try.zeroValue76
  t35 := Try.underlying78
  a35 := Try.isAgg78
  z35 := Try.sizeOf78
  v35 := Try.zeroValue78
  t36 := Try.underlying79
  a36 := Try.isAgg79
  z36 := Try.sizeOf79
  v36 := Try.zeroValue79
  t41 := Try.underlying84
  a41 := Try.isAgg84
  z41 := Try.sizeOf84
  v41 := Try.zeroValue84
  t44 := Try.underlying87
  a44 := Try.isAgg87
  z44 := Try.sizeOf87
  v44 := Try.zeroValue87
  t46 := Try.underlying89
  a46 := Try.isAgg89
  z46 := Try.sizeOf89
  v46 := Try.zeroValue89
  t53 := Try.underlying90
  a53 := Try.isAgg90
  z53 := Try.sizeOf90
  v53 := Try.zeroValue90
  t57 := Try.underlying94
  a57 := Try.isAgg94
  z57 := Try.sizeOf94
  v57 := Try.zeroValue94
  t63 := Try.underlying96
  a63 := Try.isAgg96
  z63 := Try.sizeOf96
  v63 := Try.zeroValue96
  t64 := Try.underlying97
  a64 := Try.isAgg97
  z64 := Try.sizeOf97
  v64 := Try.zeroValue97 }

theorem sorts21 (m : Nat) : AnyZ.SortsIn Try.prog sorted21_ren Fence.wide m :=
  ⟨fun blk off cap ss W hH hblk hsz => callsIn_wide.2 (AnyM.slices_Sort_string sort31 blk off cap ss W hH hblk hsz),
   fun p cap W => callsIn_wide.2 (AnyM.slices_Sort_string_none sort31 p cap W)⟩

theorem keys_ok (D : Hl.MD) (e : TypeId) (sz : Nat) : Hl.HKeys Try.prog 22 32 55 e sz D :=
  Hl.hfn_keys (by kernel_rfl) fun b w => callsIn_wide.1 (AnyZ.keys_in keys22 Fence.wide 5 trivial rfl (some b) w)

theorem sorted_ok (D : Hl.MD) (e : TypeId) (sz : Nat) (hD : Hl.MOk D) (hl : D.length ≤ 2 ^ 40) : Hl.HSorted Try.prog 21 32 55 e sz D := by
  refine Hl.hfn_sorted (by kernel_rfl) Try.underlying9 hD hl fun B b nn D0 w hB hc hown hmax hbytes => (callsIn_wide (n := 5)).1 ?_
  have hlen : Maps.size D0 = (strKeys D0).length := by
    obtain ⟨es, clock, _, _, _, rfl⟩ := hown
    simp [Maps.size, strKeys]
  have hseq : SeqGives Fence.wide 2 Try.prog 32 #[.pointer (some ⟨B, 0, none⟩)] encStr (fun ss => ss.Perm (strKeys D0)) (Maps.size D0) w :=
    AnyZ.keys_gives (ρ := keys22_ren) { keys22 with } Fence.wide _ trivial rfl (by omega) B b nn D0 _ hB hc hown
  exact AnyZ.sorted_in sorted21 Fence.wide 5 trivial trivial trivial trivial rfl (by omega) (sorts21 _) (enters_of Try.func31 (by kernel_rfl) rfl) 32 #[.pointer (some ⟨B, 0, none⟩)] trivial (enters_of Try.func32 (by kernel_rfl) rfl) _ _ (by rw [hlen]; exact hmax) (by rw [hlen]; exact hbytes) _ hseq
end Go.Proofs.Ytbmeabkgdpfpbaa
