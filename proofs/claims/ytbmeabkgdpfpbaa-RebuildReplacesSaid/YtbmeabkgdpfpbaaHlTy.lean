/- Types of the program, computed. Printed by wip/gen/ty.py. By an AI agent. -/
import Derived.Test.YtbmeabkgdpfpbaaChecked
import Derived.Test.YtbmeabkgdpfpbaaPl18
import Derived.Test.YtbmeabkgdpfpbaaHlW
set_option linter.unusedSimpArgs false
set_option linter.unusedVariables false
namespace Go.Proofs
namespace Ytbmeabkgdpfpbaa
open Go Go.Hl Go.Pl

theorem ty1 : tyOf Try.prog 1 = some { size := 1, bytes := 8, d := TyD.func, z := CV.nilf } := by kernel_rfl
theorem ty2 : tyOf Try.prog 2 = some { size := 1, bytes := 8, d := TyD.int IntKind.i64, z := CV.int IntKind.i64 0 } := by kernel_rfl
theorem ty3 : tyOf Try.prog 3 = some { size := 1, bytes := 8, d := TyD.int IntKind.i64, z := CV.int IntKind.i64 0 } := by kernel_rfl
theorem ty4 : tyOf Try.prog 4 = some { size := 1, bytes := 1, d := TyD.bool, z := CV.bool false } := by kernel_rfl
theorem ty5 : tyOf Try.prog 5 = some { size := 1, bytes := 1, d := TyD.int IntKind.u8, z := CV.int IntKind.u8 0 } := by kernel_rfl
theorem ty6 : tyOf Try.prog 6 = some { size := 1, bytes := 1, d := TyD.int IntKind.u8, z := CV.int IntKind.u8 0 } := by kernel_rfl
theorem ty7 : tyOf Try.prog 7 = some { size := 4, bytes := 24, d := TyD.struct [(0, 2), (1, 3), (2, 4), (3, 6)], z := CV.agg [CV.int IntKind.i64 0, CV.int IntKind.i64 0, CV.bool false, CV.int IntKind.u8 0] } := by kernel_rfl
theorem ty8 : tyOf Try.prog 8 = some { size := 4, bytes := 24, d := TyD.struct [(0, 2), (1, 3), (2, 4), (3, 6)], z := CV.agg [CV.int IntKind.i64 0, CV.int IntKind.i64 0, CV.bool false, CV.int IntKind.u8 0] } := by kernel_rfl
theorem ty9 : tyOf Try.prog 9 = some { size := 1, bytes := 16, d := TyD.string, z := CV.str [] } := by kernel_rfl
theorem ty10 : tyOf Try.prog 10 = some { size := 1, bytes := 16, d := TyD.string, z := CV.str [] } := by kernel_rfl
theorem ty11 : tyOf Try.prog 11 = some { size := 1, bytes := 16, d := TyD.string, z := CV.str [] } := by kernel_rfl
theorem ty12 : tyOf Try.prog 12 = some { size := 1, bytes := 8, d := TyD.int IntKind.u64, z := CV.int IntKind.u64 0 } := by kernel_rfl
theorem ty13 : tyOf Try.prog 13 = some { size := 2, bytes := 24, d := TyD.struct [(0, 9), (1, 12)], z := CV.agg [CV.str [], CV.int IntKind.u64 0] } := by kernel_rfl
theorem ty14 : tyOf Try.prog 14 = some { size := 2, bytes := 24, d := TyD.struct [(0, 9), (1, 12)], z := CV.agg [CV.str [], CV.int IntKind.u64 0] } := by kernel_rfl
theorem ty15 : tyOf Try.prog 15 = some { size := 1, bytes := 8, d := TyD.pointer 101, z := CV.nilp } := by kernel_rfl
theorem ty16 : tyOf Try.prog 16 = some { size := 1, bytes := 8, d := TyD.pointer 104, z := CV.nilp } := by kernel_rfl
theorem ty17 : tyOf Try.prog 17 = some { size := 1, bytes := 8, d := TyD.pointer 113, z := CV.nilp } := by kernel_rfl
theorem ty18 : tyOf Try.prog 18 = some { size := 1, bytes := 8, d := TyD.struct [(0, 17)], z := CV.agg [CV.nilp] } := by kernel_rfl
theorem ty19 : tyOf Try.prog 19 = some { size := 1, bytes := 8, d := TyD.struct [(0, 17)], z := CV.agg [CV.nilp] } := by kernel_rfl
theorem ty20 : tyOf Try.prog 20 = some { size := 1, bytes := 16, d := TyD.iface true, z := CV.nili } := by kernel_rfl
theorem ty21 : tyOf Try.prog 21 = some { size := 1, bytes := 4, d := TyD.int IntKind.i32, z := CV.int IntKind.i32 0 } := by kernel_rfl
theorem ty22 : tyOf Try.prog 22 = some { size := 1, bytes := 24, d := TyD.slice 46, z := CV.nils } := by kernel_rfl
theorem ty23 : tyOf Try.prog 23 = some { size := 32, bytes := 32, d := TyD.array 32 5, z := zd } := by kernel_rfl
theorem ty24 : tyOf Try.prog 24 = some { size := 32, bytes := 32, d := TyD.array 32 5, z := zd } := by kernel_rfl
theorem ty25 : tyOf Try.prog 25 = some { size := 96, bytes := 96, d := TyD.struct [(0, 24), (32, 24), (64, 24)], z := CV.agg [zd, zd, zd] } := by kernel_rfl
theorem ty26 : tyOf Try.prog 26 = some { size := 96, bytes := 96, d := TyD.struct [(0, 24), (32, 24), (64, 24)], z := CV.agg [zd, zd, zd] } := by kernel_rfl
theorem ty27 : tyOf Try.prog 27 = some { size := 3, bytes := 24, d := TyD.array 3 3, z := CV.agg [CV.int IntKind.i64 0, CV.int IntKind.i64 0, CV.int IntKind.i64 0] } := by kernel_rfl
theorem ty28 : tyOf Try.prog 28 = some { size := 1, bytes := 24, d := TyD.slice 9, z := CV.nils } := by kernel_rfl
theorem ty29 : tyOf Try.prog 29 = some { size := 4, bytes := 80, d := TyD.struct [(0, 3), (1, 28), (2, 28), (3, 28)], z := CV.agg [CV.int IntKind.i64 0, CV.nils, CV.nils, CV.nils] } := by kernel_rfl
theorem ty30 : tyOf Try.prog 30 = some { size := 4, bytes := 80, d := TyD.struct [(0, 3), (1, 28), (2, 28), (3, 28)], z := CV.agg [CV.int IntKind.i64 0, CV.nils, CV.nils, CV.nils] } := by kernel_rfl
theorem ty31 : tyOf Try.prog 31 = some { size := 1, bytes := 8, d := TyD.func, z := CV.nilf } := by kernel_rfl
theorem ty32 : tyOf Try.prog 32 = some { size := 1, bytes := 8, d := TyD.func, z := CV.nilf } := by kernel_rfl
theorem ty33 : tyOf Try.prog 33 = some { size := 1, bytes := 8, d := TyD.func, z := CV.nilf } := by kernel_rfl
theorem ty34 : tyOf Try.prog 34 = some { size := 1, bytes := 8, d := TyD.func, z := CV.nilf } := by kernel_rfl
theorem ty35 : tyOf Try.prog 35 = some { size := 1, bytes := 8, d := TyD.func, z := CV.nilf } := by kernel_rfl
theorem ty36 : tyOf Try.prog 36 = some { size := 1, bytes := 24, d := TyD.slice 3, z := CV.nils } := by kernel_rfl
theorem ty37 : tyOf Try.prog 37 = some { size := 1, bytes := 8, d := TyD.pointer 39, z := CV.nilp } := by kernel_rfl
theorem ty38 : tyOf Try.prog 38 = some { size := 2, bytes := 32, d := TyD.struct [(0, 36), (1, 3)], z := CV.agg [CV.nils, CV.int IntKind.i64 0] } := by kernel_rfl
theorem ty39 : tyOf Try.prog 39 = some { size := 2, bytes := 32, d := TyD.struct [(0, 36), (1, 3)], z := CV.agg [CV.nils, CV.int IntKind.i64 0] } := by kernel_rfl
theorem ty40 : tyOf Try.prog 40 = some { size := 1, bytes := 8, d := TyD.func, z := CV.nilf } := by kernel_rfl
theorem ty41 : tyOf Try.prog 41 = some { size := 1, bytes := 8, d := TyD.func, z := CV.nilf } := by kernel_rfl
theorem ty42 : tyOf Try.prog 42 = some { size := 1, bytes := 8, d := TyD.func, z := CV.nilf } := by kernel_rfl
theorem ty43 : tyOf Try.prog 43 = some { size := 97, bytes := 104, d := TyD.struct [(0, 26), (96, 2)], z := CV.agg [CV.agg [zd, zd, zd], CV.int IntKind.i64 0] } := by kernel_rfl
theorem ty44 : tyOf Try.prog 44 = some { size := 97, bytes := 104, d := TyD.struct [(0, 26), (96, 2)], z := CV.agg [CV.agg [zd, zd, zd], CV.int IntKind.i64 0] } := by kernel_rfl
theorem ty45 : tyOf Try.prog 45 = some { size := 98, bytes := 120, d := TyD.struct [(0, 9), (1, 44)], z := CV.agg [CV.str [], CV.agg [CV.agg [zd, zd, zd], CV.int IntKind.i64 0]] } := by kernel_rfl
theorem ty46 : tyOf Try.prog 46 = some { size := 98, bytes := 120, d := TyD.struct [(0, 9), (1, 44)], z := CV.agg [CV.str [], CV.agg [CV.agg [zd, zd, zd], CV.int IntKind.i64 0]] } := by kernel_rfl
theorem ty47 : tyOf Try.prog 47 = some { size := 1, bytes := 8, d := TyD.func, z := CV.nilf } := by kernel_rfl
theorem ty48 : tyOf Try.prog 48 = some { size := 1, bytes := 8, d := TyD.func, z := CV.nilf } := by kernel_rfl
theorem ty49 : tyOf Try.prog 49 = some { size := 1, bytes := 8, d := TyD.func, z := CV.nilf } := by kernel_rfl
theorem ty50 : tyOf Try.prog 50 = some { size := 1, bytes := 8, d := TyD.func, z := CV.nilf } := by kernel_rfl
theorem ty51 : tyOf Try.prog 51 = some { size := 1, bytes := 8, d := TyD.func, z := CV.nilf } := by kernel_rfl
theorem ty52 : tyOf Try.prog 52 = some { size := 1, bytes := 8, d := TyD.func, z := CV.nilf } := by kernel_rfl
theorem ty53 : tyOf Try.prog 53 = some { size := 1, bytes := 8, d := TyD.func, z := CV.nilf } := by kernel_rfl
theorem ty54 : tyOf Try.prog 54 = some { size := 1, bytes := 8, d := TyD.func, z := CV.nilf } := by kernel_rfl
theorem ty55 : tyOf Try.prog 55 = some { size := 1, bytes := 8, d := TyD.map 9 56, z := CV.nilm } := by kernel_rfl
theorem ty56 : tyOf Try.prog 56 = some { size := 1, bytes := 24, d := TyD.slice 44, z := CV.nils } := by kernel_rfl
theorem ty57 : tyOf Try.prog 57 = some { size := 1, bytes := 8, d := TyD.func, z := CV.nilf } := by kernel_rfl
theorem ty58 : tyOf Try.prog 58 = some { size := 1, bytes := 8, d := TyD.func, z := CV.nilf } := by kernel_rfl
theorem ty59 : tyOf Try.prog 59 = some { size := 1, bytes := 8, d := TyD.func, z := CV.nilf } := by kernel_rfl
theorem ty60 : tyOf Try.prog 60 = some { size := 1, bytes := 8, d := TyD.func, z := CV.nilf } := by kernel_rfl
theorem ty61 : tyOf Try.prog 61 = some { size := 1, bytes := 8, d := TyD.func, z := CV.nilf } := by kernel_rfl
theorem ty62 : tyOf Try.prog 62 = some { size := 1, bytes := 8, d := TyD.func, z := CV.nilf } := by kernel_rfl
theorem ty63 : tyOf Try.prog 63 = some { size := 1, bytes := 8, d := TyD.func, z := CV.nilf } := by kernel_rfl
theorem ty64 : tyOf Try.prog 64 = some { size := 1, bytes := 8, d := TyD.func, z := CV.nilf } := by kernel_rfl
theorem ty65 : tyOf Try.prog 65 = some { size := 1, bytes := 8, d := TyD.func, z := CV.nilf } := by kernel_rfl
theorem ty66 : tyOf Try.prog 66 = some { size := 1, bytes := 8, d := TyD.func, z := CV.nilf } := by kernel_rfl
theorem ty67 : tyOf Try.prog 67 = some { size := 1, bytes := 8, d := TyD.func, z := CV.nilf } := by kernel_rfl
theorem ty68 : tyOf Try.prog 68 = some { size := 1, bytes := 8, d := TyD.func, z := CV.nilf } := by kernel_rfl
theorem ty69 : tyOf Try.prog 69 = some { size := 1, bytes := 8, d := TyD.func, z := CV.nilf } := by kernel_rfl
theorem ty70 : tyOf Try.prog 70 = some { size := 1, bytes := 8, d := TyD.func, z := CV.nilf } := by kernel_rfl
theorem ty71 : tyOf Try.prog 71 = some { size := 1, bytes := 8, d := TyD.func, z := CV.nilf } := by kernel_rfl
theorem ty72 : tyOf Try.prog 72 = some { size := 1, bytes := 8, d := TyD.func, z := CV.nilf } := by kernel_rfl
theorem ty73 : tyOf Try.prog 73 = some { size := 1, bytes := 8, d := TyD.func, z := CV.nilf } := by kernel_rfl
theorem ty74 : tyOf Try.prog 74 = some { size := 1, bytes := 8, d := TyD.func, z := CV.nilf } := by kernel_rfl
theorem ty75 : tyOf Try.prog 75 = some { size := 1, bytes := 8, d := TyD.func, z := CV.nilf } := by kernel_rfl
theorem ty76 : tyOf Try.prog 76 = some { size := 1, bytes := 8, d := TyD.int IntKind.u64, z := CV.int IntKind.u64 0 } := by kernel_rfl
theorem ty77 : tyOf Try.prog 77 = some { size := 1, bytes := 8, d := TyD.func, z := CV.nilf } := by kernel_rfl
theorem ty78 : tyOf Try.prog 78 = some { size := 1, bytes := 8, d := TyD.int IntKind.i64, z := CV.int IntKind.i64 0 } := by kernel_rfl
theorem ty80 : tyOf Try.prog 80 = some { size := 1, bytes := 8, d := TyD.func, z := CV.nilf } := by kernel_rfl
theorem ty81 : tyOf Try.prog 81 = some { size := 1, bytes := 8, d := TyD.func, z := CV.nilf } := by kernel_rfl
theorem ty82 : tyOf Try.prog 82 = some { size := 1, bytes := 8, d := TyD.func, z := CV.nilf } := by kernel_rfl
theorem ty83 : tyOf Try.prog 83 = some { size := 1, bytes := 8, d := TyD.func, z := CV.nilf } := by kernel_rfl
theorem ty85 : tyOf Try.prog 85 = some { size := 1, bytes := 8, d := TyD.func, z := CV.nilf } := by kernel_rfl
theorem ty86 : tyOf Try.prog 86 = some { size := 1, bytes := 8, d := TyD.func, z := CV.nilf } := by kernel_rfl
theorem ty87 : tyOf Try.prog 87 = some { size := 1, bytes := 4, d := TyD.int IntKind.u32, z := CV.int IntKind.u32 0 } := by kernel_rfl
theorem ty88 : tyOf Try.prog 88 = some { size := 1, bytes := 8, d := TyD.func, z := CV.nilf } := by kernel_rfl
theorem ty89 : tyOf Try.prog 89 = some { size := 1, bytes := 8, d := TyD.int IntKind.u64, z := CV.int IntKind.u64 0 } := by kernel_rfl
theorem ty90 : tyOf Try.prog 90 = some { size := 1, bytes := 8, d := TyD.int IntKind.u64, z := CV.int IntKind.u64 0 } := by kernel_rfl
theorem ty91 : tyOf Try.prog 91 = some { size := 1, bytes := 8, d := TyD.func, z := CV.nilf } := by kernel_rfl
theorem ty92 : tyOf Try.prog 92 = some { size := 1, bytes := 8, d := TyD.func, z := CV.nilf } := by kernel_rfl
theorem ty93 : tyOf Try.prog 93 = some { size := 1, bytes := 8, d := TyD.func, z := CV.nilf } := by kernel_rfl
theorem ty94 : tyOf Try.prog 94 = some { size := 1, bytes := 8, d := TyD.pointer 3, z := CV.nilp } := by kernel_rfl
theorem ty95 : tyOf Try.prog 95 = some { size := 1, bytes := 8, d := TyD.func, z := CV.nilf } := by kernel_rfl
theorem ty96 : tyOf Try.prog 96 = some { size := 1, bytes := 8, d := TyD.pointer 90, z := CV.nilp } := by kernel_rfl
theorem ty98 : tyOf Try.prog 98 = some { size := 1, bytes := 8, d := TyD.func, z := CV.nilf } := by kernel_rfl
theorem ty99 : tyOf Try.prog 99 = some { size := 1, bytes := 8, d := TyD.func, z := CV.nilf } := by kernel_rfl
theorem ty100 : tyOf Try.prog 100 = some { size := 4, bytes := 40, d := TyD.struct [(0, 17), (1, 17), (2, 17), (3, 9)], z := CV.agg [CV.nilp, CV.nilp, CV.nilp, CV.str []] } := by kernel_rfl
theorem ty101 : tyOf Try.prog 101 = some { size := 4, bytes := 40, d := TyD.struct [(0, 17), (1, 17), (2, 17), (3, 9)], z := CV.agg [CV.nilp, CV.nilp, CV.nilp, CV.str []] } := by kernel_rfl
theorem ty105 : tyOf Try.prog 105 = some { size := 1, bytes := 8, d := TyD.func, z := CV.nilf } := by kernel_rfl
theorem ty106 : tyOf Try.prog 106 = some { size := 1, bytes := 1, d := TyD.int IntKind.u8, z := CV.int IntKind.u8 0 } := by kernel_rfl
theorem ty107 : tyOf Try.prog 107 = some { size := 1, bytes := 1, d := TyD.int IntKind.u8, z := CV.int IntKind.u8 0 } := by kernel_rfl
theorem ty108 : tyOf Try.prog 108 = some { size := 1, bytes := 8, d := TyD.func, z := CV.nilf } := by kernel_rfl
theorem ty109 : tyOf Try.prog 109 = some { size := 1, bytes := 8, d := TyD.pointer 5, z := CV.nilp } := by kernel_rfl
theorem ty110 : tyOf Try.prog 110 = some { size := 1, bytes := 4, d := TyD.int IntKind.i32, z := CV.int IntKind.i32 0 } := by kernel_rfl
theorem ty111 : tyOf Try.prog 111 = some { size := 1, bytes := 4, d := TyD.int IntKind.i32, z := CV.int IntKind.i32 0 } := by kernel_rfl
theorem ty112 : tyOf Try.prog 112 = some { size := 11, bytes := 48, d := TyD.struct [(0, 12), (1, 12), (2, 87), (3, 106), (4, 5), (5, 5), (6, 107), (7, 108), (8, 109), (9, 110), (10, 111)], z := CV.agg [CV.int IntKind.u64 0, CV.int IntKind.u64 0, CV.int IntKind.u32 0, CV.int IntKind.u8 0, CV.int IntKind.u8 0, CV.int IntKind.u8 0, CV.int IntKind.u8 0, CV.nilf, CV.nilp, CV.int IntKind.i32 0, CV.int IntKind.i32 0] } := by kernel_rfl
theorem ty113 : tyOf Try.prog 113 = some { size := 11, bytes := 48, d := TyD.struct [(0, 12), (1, 12), (2, 87), (3, 106), (4, 5), (5, 5), (6, 107), (7, 108), (8, 109), (9, 110), (10, 111)], z := CV.agg [CV.int IntKind.u64 0, CV.int IntKind.u64 0, CV.int IntKind.u32 0, CV.int IntKind.u8 0, CV.int IntKind.u8 0, CV.int IntKind.u8 0, CV.int IntKind.u8 0, CV.nilf, CV.nilp, CV.int IntKind.i32 0, CV.int IntKind.i32 0] } := by kernel_rfl
theorem eqdg23 (x y : Dig) (K : CV → Prop) : hbin Try.prog .eql 23 (.c (dg x)) (.c (dg y)) K = K (.bool (x == y)) := (hbin_dg (by kernel_rfl) ty23 ty5 (by kernel_rfl) x y K).1
theorem nedg23 (x y : Dig) (K : CV → Prop) : hbin Try.prog .neq 23 (.c (dg x)) (.c (dg y)) K = K (.bool (!(x == y))) := (hbin_dg (by kernel_rfl) ty23 ty5 (by kernel_rfl) x y K).2
theorem eqdg24 (x y : Dig) (K : CV → Prop) : hbin Try.prog .eql 24 (.c (dg x)) (.c (dg y)) K = K (.bool (x == y)) := (hbin_dg (by kernel_rfl) ty24 ty5 (by kernel_rfl) x y K).1
theorem nedg24 (x y : Dig) (K : CV → Prop) : hbin Try.prog .neq 24 (.c (dg x)) (.c (dg y)) K = K (.bool (!(x == y))) := (hbin_dg (by kernel_rfl) ty24 ty5 (by kernel_rfl) x y K).2
theorem mixed : Try.prog.follows .mixedOrders = true := by kernel_rfl
end Ytbmeabkgdpfpbaa
end Go.Proofs
