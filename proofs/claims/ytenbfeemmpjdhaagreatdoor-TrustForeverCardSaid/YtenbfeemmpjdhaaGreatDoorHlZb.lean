/- HL: rows that a function makes and hands back as the caller's own; rows that are lent. By an AI agent. -/
import Derived.Test.YtenbfeemmpjdhaaGreatDoorChecked
import Derived.Test.YtenbfeemmpjdhaaGreatDoorPl11
import Derived.Test.YtenbfeemmpjdhaaGreatDoorPl18
import Derived.WalkKit
import Derived.ProofKit
import Derived.OpenShut
import Derived.ReadAgain
import Derived.ChangeBears
set_option linter.unusedSimpArgs false
set_option linter.unusedVariables false
set_option linter.defProp false
namespace Go.Proofs
namespace YtenbfeemmpjdhaaGreatDoor
open Go Go.Hl Go.Pl

theorem ty1 : tyOf Tryz.prog 1 = some { size := 1, bytes := 8, d := TyD.func, z := CV.nilf } := by kernel_rfl
theorem ty2 : tyOf Tryz.prog 2 = some { size := 1, bytes := 8, d := TyD.int IntKind.i64, z := CV.int IntKind.i64 0 } := by kernel_rfl
theorem ty3 : tyOf Tryz.prog 3 = some { size := 1, bytes := 8, d := TyD.int IntKind.i64, z := CV.int IntKind.i64 0 } := by kernel_rfl
theorem ty4 : tyOf Tryz.prog 4 = some { size := 1, bytes := 1, d := TyD.bool, z := CV.bool false } := by kernel_rfl
theorem ty5 : tyOf Tryz.prog 5 = some { size := 1, bytes := 1, d := TyD.int IntKind.u8, z := CV.int IntKind.u8 0 } := by kernel_rfl
theorem ty6 : tyOf Tryz.prog 6 = some { size := 1, bytes := 1, d := TyD.int IntKind.u8, z := CV.int IntKind.u8 0 } := by kernel_rfl
theorem ty7 : tyOf Tryz.prog 7 = some { size := 4, bytes := 24, d := TyD.struct [(0, 2), (1, 3), (2, 4), (3, 6)], z := CV.agg [CV.int IntKind.i64 0, CV.int IntKind.i64 0, CV.bool false, CV.int IntKind.u8 0] } := by kernel_rfl
theorem ty8 : tyOf Tryz.prog 8 = some { size := 4, bytes := 24, d := TyD.struct [(0, 2), (1, 3), (2, 4), (3, 6)], z := CV.agg [CV.int IntKind.i64 0, CV.int IntKind.i64 0, CV.bool false, CV.int IntKind.u8 0] } := by kernel_rfl
theorem ty9 : tyOf Tryz.prog 9 = some { size := 1, bytes := 16, d := TyD.string, z := CV.str [] } := by kernel_rfl
theorem ty10 : tyOf Tryz.prog 10 = some { size := 1, bytes := 16, d := TyD.string, z := CV.str [] } := by kernel_rfl
theorem ty11 : tyOf Tryz.prog 11 = some { size := 1, bytes := 16, d := TyD.string, z := CV.str [] } := by kernel_rfl
theorem ty12 : tyOf Tryz.prog 12 = some { size := 1, bytes := 8, d := TyD.int IntKind.u64, z := CV.int IntKind.u64 0 } := by kernel_rfl
theorem ty13 : tyOf Tryz.prog 13 = some { size := 2, bytes := 24, d := TyD.struct [(0, 9), (1, 12)], z := CV.agg [CV.str [], CV.int IntKind.u64 0] } := by kernel_rfl
theorem ty14 : tyOf Tryz.prog 14 = some { size := 2, bytes := 24, d := TyD.struct [(0, 9), (1, 12)], z := CV.agg [CV.str [], CV.int IntKind.u64 0] } := by kernel_rfl
theorem ty15 : tyOf Tryz.prog 15 = some { size := 1, bytes := 8, d := TyD.pointer 224, z := CV.nilp } := by kernel_rfl
theorem ty16 : tyOf Tryz.prog 16 = some { size := 1, bytes := 8, d := TyD.pointer 227, z := CV.nilp } := by kernel_rfl
theorem ty17 : tyOf Tryz.prog 17 = some { size := 1, bytes := 8, d := TyD.pointer 235, z := CV.nilp } := by kernel_rfl
theorem ty18 : tyOf Tryz.prog 18 = some { size := 1, bytes := 8, d := TyD.struct [(0, 17)], z := CV.agg [CV.nilp] } := by kernel_rfl
theorem ty19 : tyOf Tryz.prog 19 = some { size := 1, bytes := 8, d := TyD.struct [(0, 17)], z := CV.agg [CV.nilp] } := by kernel_rfl
theorem ty20 : tyOf Tryz.prog 20 = some { size := 1, bytes := 16, d := TyD.iface true, z := CV.nili } := by kernel_rfl
theorem ty21 : tyOf Tryz.prog 21 = some { size := 1, bytes := 4, d := TyD.int IntKind.i32, z := CV.int IntKind.i32 0 } := by kernel_rfl
theorem ty22 : tyOf Tryz.prog 22 = some { size := 1, bytes := 24, d := TyD.slice 64, z := CV.nils } := by kernel_rfl
theorem ty23 : tyOf Tryz.prog 23 = some { size := 1, bytes := 24, d := TyD.slice 70, z := CV.nils } := by kernel_rfl
theorem ty24 : tyOf Tryz.prog 24 = some { size := 1, bytes := 24, d := TyD.slice 51, z := CV.nils } := by kernel_rfl
theorem ty25 : tyOf Tryz.prog 25 = some { size := 5, bytes := 88, d := TyD.struct [(0, 2), (1, 2), (2, 22), (3, 23), (4, 24)], z := CV.agg [CV.int IntKind.i64 0, CV.int IntKind.i64 0, CV.nils, CV.nils, CV.nils] } := by kernel_rfl
theorem ty26 : tyOf Tryz.prog 26 = some { size := 5, bytes := 88, d := TyD.struct [(0, 2), (1, 2), (2, 22), (3, 23), (4, 24)], z := CV.agg [CV.int IntKind.i64 0, CV.int IntKind.i64 0, CV.nils, CV.nils, CV.nils] } := by kernel_rfl
theorem ty27 : tyOf Tryz.prog 27 = some { size := 1, bytes := 24, d := TyD.slice 3, z := CV.nils } := by kernel_rfl
theorem ty28 : tyOf Tryz.prog 28 = some { size := 1, bytes := 24, d := TyD.slice 26, z := CV.nils } := by kernel_rfl
theorem ty29 : tyOf Tryz.prog 29 = some { size := 1, bytes := 8, d := TyD.func, z := CV.nilf } := by kernel_rfl
theorem ty30 : tyOf Tryz.prog 30 = some { size := 1, bytes := 24, d := TyD.slice 5, z := CV.nils } := by kernel_rfl
theorem ty31 : tyOf Tryz.prog 31 = some { size := 1, bytes := 8, d := TyD.int IntKind.i64, z := CV.int IntKind.i64 0 } := by kernel_rfl
theorem ty33 : tyOf Tryz.prog 33 = some { size := 1, bytes := 8, d := TyD.func, z := CV.nilf } := by kernel_rfl
theorem ty34 : tyOf Tryz.prog 34 = some { size := 1, bytes := 8, d := TyD.func, z := CV.nilf } := by kernel_rfl
theorem ty35 : tyOf Tryz.prog 35 = some { size := 1, bytes := 8, d := TyD.func, z := CV.nilf } := by kernel_rfl
theorem ty36 : tyOf Tryz.prog 36 = some { size := 1, bytes := 8, d := TyD.func, z := CV.nilf } := by kernel_rfl
theorem ty37 : tyOf Tryz.prog 37 = some { size := 1, bytes := 8, d := TyD.pointer 39, z := CV.nilp } := by kernel_rfl
theorem ty38 : tyOf Tryz.prog 38 = some { size := 2, bytes := 32, d := TyD.struct [(0, 27), (1, 3)], z := CV.agg [CV.nils, CV.int IntKind.i64 0] } := by kernel_rfl
theorem ty39 : tyOf Tryz.prog 39 = some { size := 2, bytes := 32, d := TyD.struct [(0, 27), (1, 3)], z := CV.agg [CV.nils, CV.int IntKind.i64 0] } := by kernel_rfl
theorem ty40 : tyOf Tryz.prog 40 = some { size := 1, bytes := 8, d := TyD.func, z := CV.nilf } := by kernel_rfl
theorem ty41 : tyOf Tryz.prog 41 = some { size := 1, bytes := 24, d := TyD.slice 49, z := CV.nils } := by kernel_rfl
theorem ty43 : tyOf Tryz.prog 43 = some { size := 1, bytes := 8, d := TyD.func, z := CV.nilf } := by kernel_rfl
theorem ty45 : tyOf Tryz.prog 45 = some { size := 1, bytes := 8, d := TyD.func, z := CV.nilf } := by kernel_rfl
theorem ty46 : tyOf Tryz.prog 46 = some { size := 1, bytes := 8, d := TyD.func, z := CV.nilf } := by kernel_rfl
theorem ty47 : tyOf Tryz.prog 47 = some { size := 1, bytes := 8, d := TyD.func, z := CV.nilf } := by kernel_rfl
theorem ty48 : tyOf Tryz.prog 48 = some { size := 32, bytes := 32, d := TyD.array 32 5, z := zd } := by kernel_rfl
theorem ty49 : tyOf Tryz.prog 49 = some { size := 32, bytes := 32, d := TyD.array 32 5, z := zd } := by kernel_rfl
theorem ty50 : tyOf Tryz.prog 50 = some { size := 33, bytes := 40, d := TyD.struct [(0, 49), (32, 2)], z := CV.agg [zd, CV.int IntKind.i64 0] } := by kernel_rfl
theorem ty51 : tyOf Tryz.prog 51 = some { size := 33, bytes := 40, d := TyD.struct [(0, 49), (32, 2)], z := CV.agg [zd, CV.int IntKind.i64 0] } := by kernel_rfl
theorem ty52 : tyOf Tryz.prog 52 = some { size := 1, bytes := 8, d := TyD.func, z := CV.nilf } := by kernel_rfl
theorem ty53 : tyOf Tryz.prog 53 = some { size := 1, bytes := 24, d := TyD.slice 30, z := CV.nils } := by kernel_rfl
theorem ty54 : tyOf Tryz.prog 54 = some { size := 1, bytes := 8, d := TyD.func, z := CV.nilf } := by kernel_rfl
theorem ty55 : tyOf Tryz.prog 55 = some { size := 1, bytes := 8, d := TyD.func, z := CV.nilf } := by kernel_rfl
theorem ty56 : tyOf Tryz.prog 56 = some { size := 1, bytes := 8, d := TyD.func, z := CV.nilf } := by kernel_rfl
theorem ty57 : tyOf Tryz.prog 57 = some { size := 1, bytes := 8, d := TyD.func, z := CV.nilf } := by kernel_rfl
theorem ty58 : tyOf Tryz.prog 58 = some { size := 1, bytes := 8, d := TyD.func, z := CV.nilf } := by kernel_rfl
theorem ty59 : tyOf Tryz.prog 59 = some { size := 1, bytes := 8, d := TyD.func, z := CV.nilf } := by kernel_rfl
theorem ty60 : tyOf Tryz.prog 60 = some { size := 1, bytes := 24, d := TyD.slice 9, z := CV.nils } := by kernel_rfl
theorem ty61 : tyOf Tryz.prog 61 = some { size := 1, bytes := 8, d := TyD.func, z := CV.nilf } := by kernel_rfl
theorem ty62 : tyOf Tryz.prog 62 = some { size := 1, bytes := 24, d := TyD.slice 60, z := CV.nils } := by kernel_rfl
theorem ty63 : tyOf Tryz.prog 63 = some { size := 2, bytes := 24, d := TyD.struct [(0, 9), (1, 3)], z := CV.agg [CV.str [], CV.int IntKind.i64 0] } := by kernel_rfl
theorem ty64 : tyOf Tryz.prog 64 = some { size := 2, bytes := 24, d := TyD.struct [(0, 9), (1, 3)], z := CV.agg [CV.str [], CV.int IntKind.i64 0] } := by kernel_rfl
theorem ty65 : tyOf Tryz.prog 65 = some { size := 16, bytes := 16, d := TyD.array 16 5, z := zhf } := by kernel_rfl
theorem ty66 : tyOf Tryz.prog 66 = some { size := 16, bytes := 16, d := TyD.array 16 5, z := zhf } := by kernel_rfl
theorem ty67 : tyOf Tryz.prog 67 = some { size := 17, bytes := 24, d := TyD.struct [(0, 3), (1, 66)], z := CV.agg [CV.int IntKind.i64 0, zhf] } := by kernel_rfl
theorem ty68 : tyOf Tryz.prog 68 = some { size := 17, bytes := 24, d := TyD.struct [(0, 3), (1, 66)], z := CV.agg [CV.int IntKind.i64 0, zhf] } := by kernel_rfl
theorem ty69 : tyOf Tryz.prog 69 = some { size := 21, bytes := 80, d := TyD.struct [(0, 68), (17, 9), (18, 60), (19, 2), (20, 2)], z := CV.agg [CV.agg [CV.int IntKind.i64 0, zhf], CV.str [], CV.nils, CV.int IntKind.i64 0, CV.int IntKind.i64 0] } := by kernel_rfl
theorem ty70 : tyOf Tryz.prog 70 = some { size := 21, bytes := 80, d := TyD.struct [(0, 68), (17, 9), (18, 60), (19, 2), (20, 2)], z := CV.agg [CV.agg [CV.int IntKind.i64 0, zhf], CV.str [], CV.nils, CV.int IntKind.i64 0, CV.int IntKind.i64 0] } := by kernel_rfl
theorem ty71 : tyOf Tryz.prog 71 = some { size := 1, bytes := 8, d := TyD.func, z := CV.nilf } := by kernel_rfl
theorem ty72 : tyOf Tryz.prog 72 = some { size := 1, bytes := 8, d := TyD.func, z := CV.nilf } := by kernel_rfl
theorem ty73 : tyOf Tryz.prog 73 = some { size := 1, bytes := 8, d := TyD.func, z := CV.nilf } := by kernel_rfl
theorem ty74 : tyOf Tryz.prog 74 = some { size := 1, bytes := 8, d := TyD.func, z := CV.nilf } := by kernel_rfl
theorem ty75 : tyOf Tryz.prog 75 = some { size := 1, bytes := 8, d := TyD.func, z := CV.nilf } := by kernel_rfl
theorem ty76 : tyOf Tryz.prog 76 = some { size := 1, bytes := 8, d := TyD.func, z := CV.nilf } := by kernel_rfl
theorem ty77 : tyOf Tryz.prog 77 = some { size := 1, bytes := 8, d := TyD.func, z := CV.nilf } := by kernel_rfl
theorem ty78 : tyOf Tryz.prog 78 = some { size := 1, bytes := 8, d := TyD.func, z := CV.nilf } := by kernel_rfl
theorem ty79 : tyOf Tryz.prog 79 = some { size := 1, bytes := 8, d := TyD.func, z := CV.nilf } := by kernel_rfl
theorem ty80 : tyOf Tryz.prog 80 = some { size := 1, bytes := 8, d := TyD.func, z := CV.nilf } := by kernel_rfl
theorem ty81 : tyOf Tryz.prog 81 = some { size := 1, bytes := 8, d := TyD.func, z := CV.nilf } := by kernel_rfl
theorem ty82 : tyOf Tryz.prog 82 = some { size := 1, bytes := 8, d := TyD.func, z := CV.nilf } := by kernel_rfl
theorem ty83 : tyOf Tryz.prog 83 = some { size := 1, bytes := 8, d := TyD.func, z := CV.nilf } := by kernel_rfl
theorem ty84 : tyOf Tryz.prog 84 = some { size := 1, bytes := 8, d := TyD.func, z := CV.nilf } := by kernel_rfl
theorem ty85 : tyOf Tryz.prog 85 = some { size := 1, bytes := 8, d := TyD.func, z := CV.nilf } := by kernel_rfl
theorem ty86 : tyOf Tryz.prog 86 = some { size := 1, bytes := 8, d := TyD.func, z := CV.nilf } := by kernel_rfl
theorem ty87 : tyOf Tryz.prog 87 = some { size := 1, bytes := 8, d := TyD.func, z := CV.nilf } := by kernel_rfl
theorem ty88 : tyOf Tryz.prog 88 = some { size := 1, bytes := 8, d := TyD.func, z := CV.nilf } := by kernel_rfl
theorem ty89 : tyOf Tryz.prog 89 = some { size := 1, bytes := 8, d := TyD.func, z := CV.nilf } := by kernel_rfl
theorem ty90 : tyOf Tryz.prog 90 = some { size := 1, bytes := 8, d := TyD.func, z := CV.nilf } := by kernel_rfl
theorem ty91 : tyOf Tryz.prog 91 = some { size := 1, bytes := 8, d := TyD.func, z := CV.nilf } := by kernel_rfl
theorem ty92 : tyOf Tryz.prog 92 = some { size := 1, bytes := 8, d := TyD.func, z := CV.nilf } := by kernel_rfl
theorem ty93 : tyOf Tryz.prog 93 = some { size := 1, bytes := 8, d := TyD.func, z := CV.nilf } := by kernel_rfl
theorem ty94 : tyOf Tryz.prog 94 = some { size := 1, bytes := 8, d := TyD.func, z := CV.nilf } := by kernel_rfl
theorem ty96 : tyOf Tryz.prog 96 = some { size := 1, bytes := 8, d := TyD.func, z := CV.nilf } := by kernel_rfl
theorem ty97 : tyOf Tryz.prog 97 = some { size := 1, bytes := 8, d := TyD.func, z := CV.nilf } := by kernel_rfl
theorem ty99 : tyOf Tryz.prog 99 = some { size := 1, bytes := 8, d := TyD.func, z := CV.nilf } := by kernel_rfl
theorem ty100 : tyOf Tryz.prog 100 = some { size := 1, bytes := 8, d := TyD.func, z := CV.nilf } := by kernel_rfl
theorem ty102 : tyOf Tryz.prog 102 = some { size := 1, bytes := 8, d := TyD.func, z := CV.nilf } := by kernel_rfl
theorem ty103 : tyOf Tryz.prog 103 = some { size := 5, bytes := 88, d := TyD.struct [(0, 26)], z := CV.agg [CV.agg [CV.int IntKind.i64 0, CV.int IntKind.i64 0, CV.nils, CV.nils, CV.nils]] } := by kernel_rfl
theorem ty104 : tyOf Tryz.prog 104 = some { size := 5, bytes := 88, d := TyD.struct [(0, 26)], z := CV.agg [CV.agg [CV.int IntKind.i64 0, CV.int IntKind.i64 0, CV.nils, CV.nils, CV.nils]] } := by kernel_rfl
theorem ty105 : tyOf Tryz.prog 105 = some { size := 1, bytes := 8, d := TyD.func, z := CV.nilf } := by kernel_rfl
theorem ty106 : tyOf Tryz.prog 106 = some { size := 1, bytes := 8, d := TyD.func, z := CV.nilf } := by kernel_rfl
theorem ty107 : tyOf Tryz.prog 107 = some { size := 1, bytes := 8, d := TyD.pointer 104, z := CV.nilp } := by kernel_rfl
theorem ty108 : tyOf Tryz.prog 108 = some { size := 2, bytes := 24, d := TyD.struct [(0, 9), (1, 106)], z := CV.agg [CV.str [], CV.nilf] } := by kernel_rfl
theorem ty109 : tyOf Tryz.prog 109 = some { size := 2, bytes := 24, d := TyD.struct [(0, 9), (1, 106)], z := CV.agg [CV.str [], CV.nilf] } := by kernel_rfl
theorem ty110 : tyOf Tryz.prog 110 = some { size := 1, bytes := 24, d := TyD.slice 109, z := CV.nils } := by kernel_rfl
theorem ty111 : tyOf Tryz.prog 111 = some { size := 1, bytes := 8, d := TyD.func, z := CV.nilf } := by kernel_rfl
theorem ty112 : tyOf Tryz.prog 112 = some { size := 1, bytes := 8, d := TyD.func, z := CV.nilf } := by kernel_rfl
theorem ty114 : tyOf Tryz.prog 114 = some { size := 1, bytes := 8, d := TyD.func, z := CV.nilf } := by kernel_rfl
theorem ty115 : tyOf Tryz.prog 115 = some { size := 1, bytes := 24, d := TyD.slice 20, z := CV.nils } := by kernel_rfl
theorem ty116 : tyOf Tryz.prog 116 = some { size := 1, bytes := 8, d := TyD.func, z := CV.nilf } := by kernel_rfl
theorem ty117 : tyOf Tryz.prog 117 = some { size := 1, bytes := 8, d := TyD.func, z := CV.nilf } := by kernel_rfl
theorem ty118 : tyOf Tryz.prog 118 = some { size := 1, bytes := 8, d := TyD.func, z := CV.nilf } := by kernel_rfl
theorem ty119 : tyOf Tryz.prog 119 = some { size := 1, bytes := 8, d := TyD.func, z := CV.nilf } := by kernel_rfl
theorem ty120 : tyOf Tryz.prog 120 = some { size := 1, bytes := 8, d := TyD.func, z := CV.nilf } := by kernel_rfl
theorem ty121 : tyOf Tryz.prog 121 = some { size := 1, bytes := 8, d := TyD.func, z := CV.nilf } := by kernel_rfl
theorem ty122 : tyOf Tryz.prog 122 = some { size := 1, bytes := 8, d := TyD.func, z := CV.nilf } := by kernel_rfl
theorem ty123 : tyOf Tryz.prog 123 = some { size := 1, bytes := 8, d := TyD.func, z := CV.nilf } := by kernel_rfl
theorem ty124 : tyOf Tryz.prog 124 = some { size := 1, bytes := 8, d := TyD.func, z := CV.nilf } := by kernel_rfl
theorem ty125 : tyOf Tryz.prog 125 = some { size := 1, bytes := 8, d := TyD.func, z := CV.nilf } := by kernel_rfl
theorem ty126 : tyOf Tryz.prog 126 = some { size := 1, bytes := 8, d := TyD.func, z := CV.nilf } := by kernel_rfl
theorem ty127 : tyOf Tryz.prog 127 = some { size := 1, bytes := 8, d := TyD.func, z := CV.nilf } := by kernel_rfl
theorem ty128 : tyOf Tryz.prog 128 = some { size := 1, bytes := 8, d := TyD.func, z := CV.nilf } := by kernel_rfl
theorem ty129 : tyOf Tryz.prog 129 = some { size := 1, bytes := 8, d := TyD.func, z := CV.nilf } := by kernel_rfl
theorem ty130 : tyOf Tryz.prog 130 = some { size := 1, bytes := 8, d := TyD.func, z := CV.nilf } := by kernel_rfl
theorem ty132 : tyOf Tryz.prog 132 = some { size := 1, bytes := 8, d := TyD.func, z := CV.nilf } := by kernel_rfl
theorem ty133 : tyOf Tryz.prog 133 = some { size := 1, bytes := 8, d := TyD.func, z := CV.nilf } := by kernel_rfl
theorem ty134 : tyOf Tryz.prog 134 = some { size := 1, bytes := 8, d := TyD.func, z := CV.nilf } := by kernel_rfl
theorem ty135 : tyOf Tryz.prog 135 = some { size := 1, bytes := 8, d := TyD.func, z := CV.nilf } := by kernel_rfl
theorem ty137 : tyOf Tryz.prog 137 = some { size := 1, bytes := 8, d := TyD.func, z := CV.nilf } := by kernel_rfl
theorem ty139 : tyOf Tryz.prog 139 = some { size := 1, bytes := 8, d := TyD.func, z := CV.nilf } := by kernel_rfl
theorem ty140 : tyOf Tryz.prog 140 = some { size := 1, bytes := 8, d := TyD.func, z := CV.nilf } := by kernel_rfl
theorem ty142 : tyOf Tryz.prog 142 = some { size := 1, bytes := 8, d := TyD.func, z := CV.nilf } := by kernel_rfl
theorem ty143 : tyOf Tryz.prog 143 = some { size := 1, bytes := 8, d := TyD.func, z := CV.nilf } := by kernel_rfl
theorem ty144 : tyOf Tryz.prog 144 = some { size := 1, bytes := 8, d := TyD.int IntKind.u64, z := CV.int IntKind.u64 0 } := by kernel_rfl
theorem ty145 : tyOf Tryz.prog 145 = some { size := 1, bytes := 8, d := TyD.int IntKind.u64, z := CV.int IntKind.u64 0 } := by kernel_rfl
theorem ty146 : tyOf Tryz.prog 146 = some { size := 1, bytes := 8, d := TyD.func, z := CV.nilf } := by kernel_rfl
theorem ty147 : tyOf Tryz.prog 147 = some { size := 1, bytes := 8, d := TyD.func, z := CV.nilf } := by kernel_rfl
theorem ty148 : tyOf Tryz.prog 148 = some { size := 1, bytes := 8, d := TyD.func, z := CV.nilf } := by kernel_rfl
theorem ty149 : tyOf Tryz.prog 149 = some { size := 1, bytes := 8, d := TyD.func, z := CV.nilf } := by kernel_rfl
theorem ty150 : tyOf Tryz.prog 150 = some { size := 1, bytes := 8, d := TyD.func, z := CV.nilf } := by kernel_rfl
theorem ty151 : tyOf Tryz.prog 151 = some { size := 1, bytes := 4, d := TyD.int IntKind.u32, z := CV.int IntKind.u32 0 } := by kernel_rfl
theorem ty152 : tyOf Tryz.prog 152 = some { size := 8, bytes := 32, d := TyD.array 8 151, z := ws (wz 8) } := by kernel_rfl
theorem ty153 : tyOf Tryz.prog 153 = some { size := 1, bytes := 8, d := TyD.func, z := CV.nilf } := by kernel_rfl
theorem ty154 : tyOf Tryz.prog 154 = some { size := 1, bytes := 8, d := TyD.func, z := CV.nilf } := by kernel_rfl
theorem ty155 : tyOf Tryz.prog 155 = some { size := 1, bytes := 8, d := TyD.func, z := CV.nilf } := by kernel_rfl
theorem ty156 : tyOf Tryz.prog 156 = some { size := 1, bytes := 8, d := TyD.func, z := CV.nilf } := by kernel_rfl
theorem ty157 : tyOf Tryz.prog 157 = some { size := 1, bytes := 8, d := TyD.func, z := CV.nilf } := by kernel_rfl
theorem ty158 : tyOf Tryz.prog 158 = some { size := 1, bytes := 8, d := TyD.func, z := CV.nilf } := by kernel_rfl
theorem ty159 : tyOf Tryz.prog 159 = some { size := 1, bytes := 8, d := TyD.func, z := CV.nilf } := by kernel_rfl
theorem ty160 : tyOf Tryz.prog 160 = some { size := 1, bytes := 8, d := TyD.func, z := CV.nilf } := by kernel_rfl
theorem ty161 : tyOf Tryz.prog 161 = some { size := 64, bytes := 256, d := TyD.array 64 151, z := ws (wz 64) } := by kernel_rfl
theorem ty162 : tyOf Tryz.prog 162 = some { size := 1, bytes := 8, d := TyD.func, z := CV.nilf } := by kernel_rfl
theorem ty163 : tyOf Tryz.prog 163 = some { size := 1, bytes := 8, d := TyD.func, z := CV.nilf } := by kernel_rfl
theorem ty164 : tyOf Tryz.prog 164 = some { size := 1, bytes := 8, d := TyD.pointer 152, z := CV.nilp } := by kernel_rfl
theorem ty165 : tyOf Tryz.prog 165 = some { size := 1, bytes := 8, d := TyD.pointer 161, z := CV.nilp } := by kernel_rfl
theorem ty166 : tyOf Tryz.prog 166 = some { size := 128, bytes := 128, d := TyD.array 128 5, z := us (uz 128) } := by kernel_rfl
theorem ty167 : tyOf Tryz.prog 167 = some { size := 1, bytes := 8, d := TyD.func, z := CV.nilf } := by kernel_rfl
theorem ty168 : tyOf Tryz.prog 168 = some { size := 1, bytes := 8, d := TyD.int IntKind.i64, z := CV.int IntKind.i64 0 } := by kernel_rfl
theorem ty170 : tyOf Tryz.prog 170 = some { size := 1, bytes := 8, d := TyD.func, z := CV.nilf } := by kernel_rfl
theorem ty171 : tyOf Tryz.prog 171 = some { size := 1, bytes := 8, d := TyD.func, z := CV.nilf } := by kernel_rfl
theorem ty172 : tyOf Tryz.prog 172 = some { size := 1, bytes := 8, d := TyD.func, z := CV.nilf } := by kernel_rfl
theorem ty173 : tyOf Tryz.prog 173 = some { size := 1, bytes := 8, d := TyD.func, z := CV.nilf } := by kernel_rfl
theorem ty175 : tyOf Tryz.prog 175 = some { size := 1, bytes := 8, d := TyD.func, z := CV.nilf } := by kernel_rfl
theorem ty176 : tyOf Tryz.prog 176 = some { size := 1, bytes := 8, d := TyD.func, z := CV.nilf } := by kernel_rfl
theorem ty177 : tyOf Tryz.prog 177 = some { size := 1, bytes := 8, d := TyD.func, z := CV.nilf } := by kernel_rfl
theorem ty178 : tyOf Tryz.prog 178 = some { size := 1, bytes := 8, d := TyD.func, z := CV.nilf } := by kernel_rfl
theorem ty179 : tyOf Tryz.prog 179 = some { size := 1, bytes := 8, d := TyD.func, z := CV.nilf } := by kernel_rfl
theorem ty180 : tyOf Tryz.prog 180 = some { size := 1, bytes := 8, d := TyD.func, z := CV.nilf } := by kernel_rfl
theorem ty181 : tyOf Tryz.prog 181 = some { size := 1, bytes := 8, d := TyD.func, z := CV.nilf } := by kernel_rfl
theorem ty182 : tyOf Tryz.prog 182 = some { size := 1, bytes := 8, d := TyD.func, z := CV.nilf } := by kernel_rfl
theorem ty184 : tyOf Tryz.prog 184 = some { size := 1, bytes := 8, d := TyD.func, z := CV.nilf } := by kernel_rfl
theorem ty185 : tyOf Tryz.prog 185 = some { size := 1, bytes := 8, d := TyD.func, z := CV.nilf } := by kernel_rfl
theorem ty186 : tyOf Tryz.prog 186 = some { size := 1, bytes := 8, d := TyD.func, z := CV.nilf } := by kernel_rfl
theorem ty187 : tyOf Tryz.prog 187 = some { size := 1, bytes := 8, d := TyD.pointer 189, z := CV.nilp } := by kernel_rfl
theorem ty188 : tyOf Tryz.prog 188 = some { size := 2, bytes := 32, d := TyD.struct [(0, 187), (1, 30)], z := CV.agg [CV.nilp, CV.nils] } := by kernel_rfl
theorem ty189 : tyOf Tryz.prog 189 = some { size := 2, bytes := 32, d := TyD.struct [(0, 187), (1, 30)], z := CV.agg [CV.nilp, CV.nils] } := by kernel_rfl
theorem ty190 : tyOf Tryz.prog 190 = some { size := 1, bytes := 16, d := TyD.iface false, z := CV.nili } := by kernel_rfl
theorem ty191 : tyOf Tryz.prog 191 = some { size := 1, bytes := 16, d := TyD.iface false, z := CV.nili } := by kernel_rfl
theorem ty192 : tyOf Tryz.prog 192 = some { size := 1, bytes := 8, d := TyD.func, z := CV.nilf } := by kernel_rfl
theorem ty193 : tyOf Tryz.prog 193 = some { size := 1, bytes := 8, d := TyD.func, z := CV.nilf } := by kernel_rfl
theorem ty194 : tyOf Tryz.prog 194 = some { size := 1, bytes := 8, d := TyD.func, z := CV.nilf } := by kernel_rfl
theorem ty195 : tyOf Tryz.prog 195 = some { size := 1, bytes := 8, d := TyD.int IntKind.u64, z := CV.int IntKind.u64 0 } := by kernel_rfl
theorem ty196 : tyOf Tryz.prog 196 = some { size := 1, bytes := 8, d := TyD.func, z := CV.nilf } := by kernel_rfl
theorem ty197 : tyOf Tryz.prog 197 = some { size := 1, bytes := 8, d := TyD.func, z := CV.nilf } := by kernel_rfl
theorem ty198 : tyOf Tryz.prog 198 = some { size := 1, bytes := 8, d := TyD.func, z := CV.nilf } := by kernel_rfl
theorem ty199 : tyOf Tryz.prog 199 = some { size := 1, bytes := 8, d := TyD.pointer 3, z := CV.nilp } := by kernel_rfl
theorem ty200 : tyOf Tryz.prog 200 = some { size := 1, bytes := 8, d := TyD.func, z := CV.nilf } := by kernel_rfl
theorem ty202 : tyOf Tryz.prog 202 = some { size := 1, bytes := 8, d := TyD.func, z := CV.nilf } := by kernel_rfl
theorem ty203 : tyOf Tryz.prog 203 = some { size := 1, bytes := 8, d := TyD.func, z := CV.nilf } := by kernel_rfl
theorem ty204 : tyOf Tryz.prog 204 = some { size := 24, bytes := 24, d := TyD.array 24 5, z := CV.agg [CV.int IntKind.u8 0, CV.int IntKind.u8 0, CV.int IntKind.u8 0, CV.int IntKind.u8 0, CV.int IntKind.u8 0, CV.int IntKind.u8 0, CV.int IntKind.u8 0, CV.int IntKind.u8 0, CV.int IntKind.u8 0, CV.int IntKind.u8 0, CV.int IntKind.u8 0, CV.int IntKind.u8 0, CV.int IntKind.u8 0, CV.int IntKind.u8 0, CV.int IntKind.u8 0, CV.int IntKind.u8 0, CV.int IntKind.u8 0, CV.int IntKind.u8 0, CV.int IntKind.u8 0, CV.int IntKind.u8 0, CV.int IntKind.u8 0, CV.int IntKind.u8 0, CV.int IntKind.u8 0, CV.int IntKind.u8 0] } := by kernel_rfl
theorem ty205 : tyOf Tryz.prog 205 = some { size := 1, bytes := 8, d := TyD.func, z := CV.nilf } := by kernel_rfl
theorem ty207 : tyOf Tryz.prog 207 = some { size := 1, bytes := 8, d := TyD.func, z := CV.nilf } := by kernel_rfl
theorem ty208 : tyOf Tryz.prog 208 = some { size := 1, bytes := 8, d := TyD.pointer 5, z := CV.nilp } := by kernel_rfl
theorem ty209 : tyOf Tryz.prog 209 = some { size := 1, bytes := 8, d := TyD.pointer 195, z := CV.nilp } := by kernel_rfl
theorem ty211 : tyOf Tryz.prog 211 = some { size := 1, bytes := 8, d := TyD.func, z := CV.nilf } := by kernel_rfl
theorem ty213 : tyOf Tryz.prog 213 = some { size := 2, bytes := 2, d := TyD.struct [(0, 5), (1, 5)], z := CV.agg [CV.int IntKind.u8 0, CV.int IntKind.u8 0] } := by kernel_rfl
theorem ty214 : tyOf Tryz.prog 214 = some { size := 2, bytes := 2, d := TyD.struct [(0, 5), (1, 5)], z := CV.agg [CV.int IntKind.u8 0, CV.int IntKind.u8 0] } := by kernel_rfl
theorem ty215 : tyOf Tryz.prog 215 = some { size := 32, bytes := 32, d := TyD.array 16 214, z := CV.agg [CV.agg [CV.int IntKind.u8 0, CV.int IntKind.u8 0], CV.agg [CV.int IntKind.u8 0, CV.int IntKind.u8 0], CV.agg [CV.int IntKind.u8 0, CV.int IntKind.u8 0], CV.agg [CV.int IntKind.u8 0, CV.int IntKind.u8 0], CV.agg [CV.int IntKind.u8 0, CV.int IntKind.u8 0], CV.agg [CV.int IntKind.u8 0, CV.int IntKind.u8 0], CV.agg [CV.int IntKind.u8 0, CV.int IntKind.u8 0], CV.agg [CV.int IntKind.u8 0, CV.int IntKind.u8 0], CV.agg [CV.int IntKind.u8 0, CV.int IntKind.u8 0], CV.agg [CV.int IntKind.u8 0, CV.int IntKind.u8 0], CV.agg [CV.int IntKind.u8 0, CV.int IntKind.u8 0], CV.agg [CV.int IntKind.u8 0, CV.int IntKind.u8 0], CV.agg [CV.int IntKind.u8 0, CV.int IntKind.u8 0], CV.agg [CV.int IntKind.u8 0, CV.int IntKind.u8 0], CV.agg [CV.int IntKind.u8 0, CV.int IntKind.u8 0], CV.agg [CV.int IntKind.u8 0, CV.int IntKind.u8 0]] } := by kernel_rfl
theorem ty216 : tyOf Tryz.prog 216 = some { size := 1, bytes := 8, d := TyD.func, z := CV.nilf } := by kernel_rfl
theorem ty217 : tyOf Tryz.prog 217 = some { size := 20, bytes := 160, d := TyD.array 20 145, z := CV.agg [CV.int IntKind.u64 0, CV.int IntKind.u64 0, CV.int IntKind.u64 0, CV.int IntKind.u64 0, CV.int IntKind.u64 0, CV.int IntKind.u64 0, CV.int IntKind.u64 0, CV.int IntKind.u64 0, CV.int IntKind.u64 0, CV.int IntKind.u64 0, CV.int IntKind.u64 0, CV.int IntKind.u64 0, CV.int IntKind.u64 0, CV.int IntKind.u64 0, CV.int IntKind.u64 0, CV.int IntKind.u64 0, CV.int IntKind.u64 0, CV.int IntKind.u64 0, CV.int IntKind.u64 0, CV.int IntKind.u64 0] } := by kernel_rfl
theorem ty218 : tyOf Tryz.prog 218 = some { size := 65, bytes := 65, d := TyD.array 65 5, z := CV.agg [CV.int IntKind.u8 0, CV.int IntKind.u8 0, CV.int IntKind.u8 0, CV.int IntKind.u8 0, CV.int IntKind.u8 0, CV.int IntKind.u8 0, CV.int IntKind.u8 0, CV.int IntKind.u8 0, CV.int IntKind.u8 0, CV.int IntKind.u8 0, CV.int IntKind.u8 0, CV.int IntKind.u8 0, CV.int IntKind.u8 0, CV.int IntKind.u8 0, CV.int IntKind.u8 0, CV.int IntKind.u8 0, CV.int IntKind.u8 0, CV.int IntKind.u8 0, CV.int IntKind.u8 0, CV.int IntKind.u8 0, CV.int IntKind.u8 0, CV.int IntKind.u8 0, CV.int IntKind.u8 0, CV.int IntKind.u8 0, CV.int IntKind.u8 0, CV.int IntKind.u8 0, CV.int IntKind.u8 0, CV.int IntKind.u8 0, CV.int IntKind.u8 0, CV.int IntKind.u8 0, CV.int IntKind.u8 0, CV.int IntKind.u8 0, CV.int IntKind.u8 0, CV.int IntKind.u8 0, CV.int IntKind.u8 0, CV.int IntKind.u8 0, CV.int IntKind.u8 0, CV.int IntKind.u8 0, CV.int IntKind.u8 0, CV.int IntKind.u8 0, CV.int IntKind.u8 0, CV.int IntKind.u8 0, CV.int IntKind.u8 0, CV.int IntKind.u8 0, CV.int IntKind.u8 0, CV.int IntKind.u8 0, CV.int IntKind.u8 0, CV.int IntKind.u8 0, CV.int IntKind.u8 0, CV.int IntKind.u8 0, CV.int IntKind.u8 0, CV.int IntKind.u8 0, CV.int IntKind.u8 0, CV.int IntKind.u8 0, CV.int IntKind.u8 0, CV.int IntKind.u8 0, CV.int IntKind.u8 0, CV.int IntKind.u8 0, CV.int IntKind.u8 0, CV.int IntKind.u8 0, CV.int IntKind.u8 0, CV.int IntKind.u8 0, CV.int IntKind.u8 0, CV.int IntKind.u8 0, CV.int IntKind.u8 0] } := by kernel_rfl
theorem ty220 : tyOf Tryz.prog 220 = some { size := 1, bytes := 8, d := TyD.func, z := CV.nilf } := by kernel_rfl
theorem ty221 : tyOf Tryz.prog 221 = some { size := 1, bytes := 8, d := TyD.func, z := CV.nilf } := by kernel_rfl
theorem ty222 : tyOf Tryz.prog 222 = some { size := 64, bytes := 64, d := TyD.array 64 5, z := us (uz 64) } := by kernel_rfl
theorem ty223 : tyOf Tryz.prog 223 = some { size := 4, bytes := 40, d := TyD.struct [(0, 17), (1, 17), (2, 17), (3, 9)], z := CV.agg [CV.nilp, CV.nilp, CV.nilp, CV.str []] } := by kernel_rfl
theorem ty224 : tyOf Tryz.prog 224 = some { size := 4, bytes := 40, d := TyD.struct [(0, 17), (1, 17), (2, 17), (3, 9)], z := CV.agg [CV.nilp, CV.nilp, CV.nilp, CV.str []] } := by kernel_rfl
theorem ty228 : tyOf Tryz.prog 228 = some { size := 1, bytes := 8, d := TyD.func, z := CV.nilf } := by kernel_rfl
theorem ty229 : tyOf Tryz.prog 229 = some { size := 1, bytes := 1, d := TyD.int IntKind.u8, z := CV.int IntKind.u8 0 } := by kernel_rfl
theorem ty230 : tyOf Tryz.prog 230 = some { size := 1, bytes := 1, d := TyD.int IntKind.u8, z := CV.int IntKind.u8 0 } := by kernel_rfl
theorem ty231 : tyOf Tryz.prog 231 = some { size := 1, bytes := 8, d := TyD.func, z := CV.nilf } := by kernel_rfl
theorem ty232 : tyOf Tryz.prog 232 = some { size := 1, bytes := 4, d := TyD.int IntKind.i32, z := CV.int IntKind.i32 0 } := by kernel_rfl
theorem ty233 : tyOf Tryz.prog 233 = some { size := 1, bytes := 4, d := TyD.int IntKind.i32, z := CV.int IntKind.i32 0 } := by kernel_rfl
theorem ty234 : tyOf Tryz.prog 234 = some { size := 11, bytes := 48, d := TyD.struct [(0, 12), (1, 12), (2, 151), (3, 229), (4, 5), (5, 5), (6, 230), (7, 231), (8, 208), (9, 232), (10, 233)], z := CV.agg [CV.int IntKind.u64 0, CV.int IntKind.u64 0, CV.int IntKind.u32 0, CV.int IntKind.u8 0, CV.int IntKind.u8 0, CV.int IntKind.u8 0, CV.int IntKind.u8 0, CV.nilf, CV.nilp, CV.int IntKind.i32 0, CV.int IntKind.i32 0] } := by kernel_rfl
theorem ty235 : tyOf Tryz.prog 235 = some { size := 11, bytes := 48, d := TyD.struct [(0, 12), (1, 12), (2, 151), (3, 229), (4, 5), (5, 5), (6, 230), (7, 231), (8, 208), (9, 232), (10, 233)], z := CV.agg [CV.int IntKind.u64 0, CV.int IntKind.u64 0, CV.int IntKind.u32 0, CV.int IntKind.u8 0, CV.int IntKind.u8 0, CV.int IntKind.u8 0, CV.int IntKind.u8 0, CV.nilf, CV.nilp, CV.int IntKind.i32 0, CV.int IntKind.i32 0] } := by kernel_rfl
theorem eqdg48 (x y : Dig) (K : CV → Prop) : hbin Tryz.prog .eql 48 (.c (dg x)) (.c (dg y)) K = K (.bool (x == y)) := (hbin_dg (by kernel_rfl) ty48 ty5 (by kernel_rfl) x y K).1
theorem nedg48 (x y : Dig) (K : CV → Prop) : hbin Tryz.prog .neq 48 (.c (dg x)) (.c (dg y)) K = K (.bool (!(x == y))) := (hbin_dg (by kernel_rfl) ty48 ty5 (by kernel_rfl) x y K).2
theorem eqdg49 (x y : Dig) (K : CV → Prop) : hbin Tryz.prog .eql 49 (.c (dg x)) (.c (dg y)) K = K (.bool (x == y)) := (hbin_dg (by kernel_rfl) ty49 ty5 (by kernel_rfl) x y K).1
theorem nedg49 (x y : Dig) (K : CV → Prop) : hbin Tryz.prog .neq 49 (.c (dg x)) (.c (dg y)) K = K (.bool (!(x == y))) := (hbin_dg (by kernel_rfl) ty49 ty5 (by kernel_rfl) x y K).2
theorem mixed : Tryz.prog.follows .mixedOrders = true := by kernel_rfl
end YtenbfeemmpjdhaaGreatDoor
end Go.Proofs

namespace Go.Proofs.YtenbfeemmpjdhaaGreatDoor
open Go Go.Hl Go.Pl
set_option maxRecDepth 10000
def sP := (And.intro (And.intro (And.intro (And.intro (And.intro @Go.Hl.hlift.eq_def @Go.Hl.hopI.eq_def) (And.intro @Go.Hl.hstep.eq_def @Go.Hl.hop.eq_def)) (And.intro (And.intro @Go.Hl.hint.eq_def @Go.Hl.hstr.eq_def) (And.intro @Go.Hl.hshift.eq_def @Go.Hl.hun.eq_def))) (And.intro (And.intro (And.intro @Go.Hl.hconv.eq_def @Go.Hl.hpick.eq_def) (And.intro @Go.Hl.hclo.eq_def @Go.Hl.hext.eq_def)) (And.intro (And.intro @Go.Hl.hmax.eq_def @Go.Hl.hslice.eq_def) (And.intro @Go.Hl.hindex.eq_def @Go.Hl.hindexAddr.eq_def)))) (And.intro (And.intro (And.intro (And.intro @Go.Hl.hfieldAddr.eq_def @Go.Hl.hfield.eq_def) (And.intro @Go.Hl.hload.eq_def @Go.Hl.hstore.eq_def)) (And.intro (And.intro @Go.Hl.happend.eq_def @Go.Hl.happend2.eq_def) (And.intro @Go.Hl.hslice2.eq_def @Go.Hl.hclear.eq_def))) (And.intro (And.intro (And.intro @Go.Hl.hmakeMap.eq_def @Go.Hl.hlookup.eq_def) (And.intro @Go.Hl.hmapUpdate.eq_def @Go.Pl.hbuildDig.eq_def)) (And.intro (And.intro @Go.Hl.hcopy.eq_def @Go.Hl.hmkIface.eq_def) (And.intro @Go.Hl.hassert.eq_def (And.intro @Go.Hl.hmakeSlice.eq_def @Go.Hl.happends.eq_def))))))
def sA := (And.intro (And.intro (And.intro (And.intro (And.intro (And.intro (And.intro (And.intro @Go.Hl.HV.toC.eq_1 @Go.Hl.HV.toC.eq_2) (And.intro @Go.Hl.HV.toC.eq_3 @Go.Hl.HV.toCL.eq_1)) (And.intro (And.intro @Go.Hl.HV.toCL.eq_2 @Go.Hl.cells_mem_str) (And.intro @List.length_singleton.{0} (And.intro @beq_true @beq_false)))) (And.intro (And.intro (And.intro @decide_eq_true_eq @Go.Hl.denilL_str) (And.intro @Go.Hl.denilL_int (And.intro @Go.Hl.hwalk2.eq_1 @Go.Hl.hwalk2.eq_2))) (And.intro (And.intro @Go.Hl.ids4.eq_1 @Go.Hl.getF.eq_1) (And.intro @Go.Hl.isEff.eq_1 (And.intro @Go.Hl.isEff.eq_2 @Go.Hl.isEff.eq_3))))) (And.intro (And.intro (And.intro (And.intro @Go.Hl.isEff.eq_4 @Bool.or_false) (And.intro @List.append_nil.{0} (And.intro @Go.Hl.hlex.eq_1 @Go.Hl.hlex.eq_2))) (And.intro (And.intro @Go.Hl.hguard.eq_1 @Go.Hl.hcallOf.eq_1) (And.intro @Go.Hl.hcallOf.eq_2 (And.intro @Go.Hl.touch.eq_1 @Go.Hl.touch.eq_2)))) (And.intro (And.intro (And.intro @Go.Hl.touch.eq_3 @Go.Hl.touch.eq_4) (And.intro @Go.Hl.touch.eq_5 (And.intro @Go.Hl.touch.eq_6 @Go.Hl.touch.eq_7))) (And.intro (And.intro @Go.Hl.touch.eq_8 @Go.Hl.touch.eq_9) (And.intro @Go.Hl.touch.eq_10 (And.intro @Go.Hl.HV.ids.eq_1 @Go.Hl.HV.ids.eq_2)))))) (And.intro (And.intro (And.intro (And.intro (And.intro @Go.Hl.HV.ids.eq_3 @Go.Hl.HV.ids.eq_4) (And.intro @Go.Hl.HV.ids.eq_5 @Go.Hl.HV.ids.eq_6)) (And.intro (And.intro @Go.Hl.HV.ids.eq_7 @Go.Hl.ev.eq_1) (And.intro @Go.Hl.ev.eq_2 (And.intro @Go.Hl.ev.eq_3 @Go.Hl.ev.eq_4)))) (And.intro (And.intro (And.intro @Go.Hl.cvC.eq_1 @Go.Hl.cvC.eq_2) (And.intro @Go.Hl.cvC1.eq_1 (And.intro @Go.Hl.cvC1.eq_2 @Go.Hl.cvC1.eq_3))) (And.intro (And.intro @Go.Hl.cvC1.eq_4 @Go.Hl.cvC1.eq_5) (And.intro @Go.Hl.cvC1.eq_6 (And.intro @Go.Hl.cvC1.eq_7 @Go.Hl.cvC1.eq_8))))) (And.intro (And.intro (And.intro (And.intro @Go.Hl.cvC1.eq_9 @Go.Hl.updo_at) (And.intro @Go.Hl.updo_none (And.intro @Go.Hl.updo.eq_1 @Go.Hl.updo.eq_2))) (And.intro (And.intro @Go.Hl.upd_at @Go.Hl.fin_at) (And.intro @Go.Hl.fin_nil (And.intro @Go.Hl.finA_at @Go.Hl.finA_nil)))) (And.intro (And.intro (And.intro @Go.Hl.fob_at @Go.Hl.fob_nil) (And.intro @Go.Hl.none0_at (And.intro @Go.Hl.hlift_some @Go.Hl.hlift_none))) (And.intro (And.intro @Go.Hl.hthen.eq_1 @Go.Hl.hthen.eq_2) (And.intro @Go.Hl.hblk.eq_1 (And.intro @Go.Hl.hblk.eq_2 @Go.Hl.hbin_int))))))) (And.intro (And.intro (And.intro (And.intro (And.intro (And.intro @Go.Hl.hbin_str @Go.Hl.hbin_bool) (And.intro @Go.Hl.isShift.eq_1 @Go.Hl.isShift.eq_2)) (And.intro (And.intro @Go.Hl.isShift.eq_3 @Go.Pl.hbuild_agg) (And.intro @Go.Hl.hfill.eq_1 (And.intro @Go.Hl.hfill.eq_2 @Go.Hl.HV.norm.eq_1)))) (And.intro (And.intro (And.intro @List.set_cons_zero.{0} @List.set_cons_succ.{0}) (And.intro @Go.Hl.hclosed.eq_1 (And.intro @Go.Hl.hclosed.eq_2 @Go.Hl.hread.eq_1))) (And.intro (And.intro @Go.Hl.hread.eq_2 @Go.Hl.hread.eq_3) (And.intro @Go.Hl.hread.eq_4 (And.intro @Go.Hl.hlo.eq_1 @Go.Hl.hlo.eq_2))))) (And.intro (And.intro (And.intro (And.intro @Go.Hl.hlo.eq_3 @Go.Hl.live.eq_1) (And.intro @Go.Hl.live.eq_2 (And.intro @Go.Hl.live.eq_3 @Go.Hl.live.eq_4))) (And.intro (And.intro @Go.Hl.live.eq_5 @Go.Hl.live.eq_6) (And.intro @Go.Hl.HO.isBox.eq_1 (And.intro @Go.Hl.HO.isBox.eq_2 @Go.Hl.HO.isRow.eq_1)))) (And.intro (And.intro (And.intro @Go.Hl.HO.isRow.eq_2 @Go.Hl.TyD.isAgg.eq_1) (And.intro @Go.Hl.TyD.isAgg.eq_2 (And.intro @Go.Hl.TyD.isAgg.eq_3 @Go.Hl.HV.sto.eq_1))) (And.intro (And.intro @Go.Hl.HV.sto.eq_2 @Go.Hl.HV.sto.eq_3) (And.intro @Go.Hl.HV.sto.eq_4 (And.intro @Go.Hl.HV.stoL.eq_1 @Go.Hl.HV.stoL.eq_2)))))) (And.intro (And.intro (And.intro (And.intro (And.intro @Go.Hl.HV.isAgg.eq_1 @Go.Hl.HV.isAgg.eq_2) (And.intro @Go.Hl.HV.isAgg.eq_3 @Go.Hl.CV.isAgg.eq_1)) (And.intro (And.intro @Go.Hl.CV.isAgg.eq_2 @Go.Hl.HV.cells.eq_1) (And.intro @Go.Hl.HV.cells.eq_2 (And.intro @Go.Hl.HV.cells.eq_3 @Go.Hl.HV.cellsL.eq_1)))) (And.intro (And.intro (And.intro @Go.Hl.HV.cellsL.eq_2 @Go.Hl.CV.cells.eq_1) (And.intro @Go.Hl.CV.cells.eq_2 (And.intro @Go.Hl.CV.cellsL.eq_1 @Go.Hl.CV.cellsL.eq_2))) (And.intro (And.intro @Go.Hl.HV.getAt.eq_1 @Go.Hl.HV.getAt.eq_2) (And.intro @Go.Hl.HV.getAt.eq_3 (And.intro @Go.Hl.HV.getAtL.eq_1 @Go.Hl.HV.getAtL.eq_2))))) (And.intro (And.intro (And.intro (And.intro @Go.Hl.CV.getAt.eq_1 @Go.Hl.CV.getAt.eq_2) (And.intro @Go.Hl.CV.getAtL.eq_1 (And.intro @Go.Hl.CV.getAtL.eq_2 @Go.Hl.HV.setAt.eq_1))) (And.intro (And.intro @Go.Hl.HV.setAt.eq_2 @Go.Hl.HV.setAt.eq_3) (And.intro @Go.Hl.HV.setAtL.eq_1 (And.intro @Go.Hl.HV.setAtL.eq_2 @Go.Hl.CV.setAt.eq_1)))) (And.intro (And.intro (And.intro @Go.Hl.CV.setAt.eq_2 @Go.Hl.CV.setAtL.eq_1) (And.intro @Go.Hl.CV.setAtL.eq_2 (And.intro @Go.Hl.HV.den.eq_1 @Go.Hl.HV.den.eq_2))) (And.intro (And.intro @Go.Hl.CV.denil.eq_1 @Go.Hl.CV.denil.eq_2) (And.intro @Go.Hl.CV.denil.eq_3 (And.intro @Go.Hl.CV.denil.eq_4 @Go.Hl.CV.denilL.eq_1)))))))) (And.intro (And.intro (And.intro (And.intro (And.intro (And.intro (And.intro @Go.Hl.CV.denilL.eq_2 @List.range.eq_1) (And.intro @List.range.loop.eq_1 @List.range.loop.eq_2)) (And.intro (And.intro @List.size_toArray.{0} @List.length_cons.{0}) (And.intro @List.length_nil.{0} (And.intro @List.length_map.{0,0} @List.getElem?_toArray.{0})))) (And.intro (And.intro (And.intro @List.getElem?_cons_zero.{0} @List.getElem?_cons_succ.{0}) (And.intro @List.map_cons.{0,0} (And.intro @List.map_nil.{0,0} @List.flatMap_cons.{0,0}))) (And.intro (And.intro @List.flatMap_nil.{0,0} @List.toList_toArray.{0}) (And.intro @List.not_mem_nil.{0} (And.intro @List.mem_cons.{0} @List.nil_append.{0}))))) (And.intro (And.intro (And.intro (And.intro @List.cons_append.{0} @false_implies) (And.intro @implies_true.{0} (And.intro @implies_true.{1} @true_and))) (And.intro (And.intro @and_true @and_self) (And.intro @ne_eq.{0} (And.intro @ne_eq.{1} @not_false_eq_true)))) (And.intro (And.intro (And.intro @not_true_eq_false @Nat.lt_irrefl) (And.intro @Nat.zero_add (And.intro @Nat.add_zero @Nat.succ_ne_self))) (And.intro (And.intro @Option.map_some.{0,0} @Option.map_none.{0,0}) (And.intro @Option.bind_some.{0,0} (And.intro @Option.isSome_some.{0} @Bool.false_eq_true)))))) (And.intro (And.intro (And.intro (And.intro (And.intro @Bool.true_eq_false @Int.toNat_natCast) (And.intro @forall_eq_or_imp.{0} @forall_eq_or_imp.{1})) (And.intro (And.intro @forall_eq.{0} @forall_eq.{1}) (And.intro @decide_true (And.intro @decide_false @Bool.not_true)))) (And.intro (And.intro (And.intro @Bool.not_false @beq_self_eq_true.{0}) (And.intro @bne_self_eq_false.{0} (And.intro @Go.Pl.hbuild_dig @Go.Pl.dg_cells))) (And.intro (And.intro @Go.Pl.dg_isAgg @Go.Pl.dg_denil) (And.intro @Go.Pl.dg_getAt (And.intro @Go.Pl.dg_setAt @Go.Pl.zd_cells))))) (And.intro (And.intro (And.intro (And.intro @Go.Pl.zd_isAgg @Go.Pl.zd_denil) (And.intro @Go.Pl.zd_getAt (And.intro @Go.Pl.zd_setAt @Go.Pl.dgi_cells))) (And.intro (And.intro @Go.Pl.dgi_isAgg @Go.Pl.dgi_denil) (And.intro @Go.Pl.dgi_getAt (And.intro @Go.Pl.dgi_1 @Go.Pl.dgi_2)))) (And.intro (And.intro (And.intro @Go.Pl.dgi_3 @Go.Pl.hf_cells) (And.intro @Go.Pl.hf_denil (And.intro @Go.Pl.hf_isAgg @Go.Pl.hf_getAt))) (And.intro (And.intro @Go.Pl.hf_setAt @Go.Pl.zhf_eq) (And.intro @Go.Pl.denilL_dg (And.intro @Go.Pl.ws_cells @Go.Pl.us_cells))))))) (And.intro (And.intro (And.intro (And.intro (And.intro (And.intro @Go.Pl.Pk.cells @Go.Pl.Pk.denil) (And.intro @Go.Pl.denilL_Pk @Go.Pl.Pk.isAgg)) (And.intro (And.intro @Go.Pl.Pk.getAll @Go.Pl.Pk.setAll) (And.intro @Go.Pl.Pk.fold (And.intro @Go.Pl.Pk.get_h @Go.Pl.Pk.set_h)))) (And.intro (And.intro (And.intro @Go.Pl.Pk.get_r @Go.Pl.Pk.set_r) (And.intro @Go.Pl.Ky.cells (And.intro @Go.Pl.Ky.denil @Go.Pl.denilL_Ky))) (And.intro (And.intro @Go.Pl.Ky.isAgg @Go.Pl.Ky.getAll) (And.intro @Go.Pl.Ky.setAll (And.intro @Go.Pl.Ky.fold @Go.Pl.Ky.get_p))))) (And.intro (And.intro (And.intro (And.intro @Go.Pl.Ky.set_p @Go.Pl.Ky.get_o) (And.intro @Go.Pl.Ky.set_o (And.intro @Go.Pl.Ky.get_rs @Go.Pl.Ky.set_rs))) (And.intro (And.intro @Go.Pl.Ky.get_fr @Go.Pl.Ky.set_fr) (And.intro @Go.Pl.Ky.get_un (And.intro @Go.Pl.Ky.set_un @Go.Pl.Qt.cells)))) (And.intro (And.intro (And.intro @Go.Pl.Qt.denil @Go.Pl.denilL_Qt) (And.intro @Go.Pl.Qt.isAgg (And.intro @Go.Pl.Qt.getAll @Go.Pl.Qt.setAll))) (And.intro (And.intro @Go.Pl.Qt.fold @Go.Pl.Qt.get_r) (And.intro @Go.Pl.Qt.set_r (And.intro @Go.Pl.Qt.get_n @Go.Pl.Qt.set_n)))))) (And.intro (And.intro (And.intro (And.intro (And.intro @Go.Pl.Rv.cells @Go.Pl.Rv.denil) (And.intro @Go.Pl.denilL_Rv @Go.Pl.Rv.isAgg)) (And.intro (And.intro @Go.Pl.Rv.getAll @Go.Pl.Rv.setAll) (And.intro @Go.Pl.Rv.fold (And.intro @Go.Pl.Rv.get_k @Go.Pl.Rv.set_k)))) (And.intro (And.intro (And.intro @Go.Pl.Rv.get_t @Go.Pl.Rv.set_t) (And.intro @Go.Pl.Rt.cells (And.intro @Go.Pl.Rt.denil @Go.Pl.denilL_Rt))) (And.intro (And.intro @Go.Pl.Rt.isAgg @Go.Pl.Rt.getAll) (And.intro @Go.Pl.Rt.setAll (And.intro @Go.Pl.Rt.fold @Go.Pl.Rt.get_v))))) (And.intro (And.intro (And.intro (And.intro @Go.Pl.Rt.set_v @Go.Pl.Rt.get_e) (And.intro @Go.Pl.Rt.set_e (And.intro @Go.Pl.Rt.get_q @Go.Pl.Rt.set_q))) (And.intro (And.intro @Go.Pl.Rt.get_k @Go.Pl.Rt.set_k) (And.intro @Go.Pl.Rt.get_x (And.intro @Go.Pl.Rt.set_x @Go.Pl.ns_denil)))) (And.intro (And.intro (And.intro @Go.Pl.ns_cells @Go.Pl.ns_isAgg) (And.intro @Go.Pl.ns_getAt (And.intro @Go.Pl.ns_setAt @Go.Hl.TyD.plain.eq_1))) (And.intro (And.intro @Go.Hl.TyD.plain.eq_2 @Go.Hl.TyD.plain.eq_3) (And.intro @Go.Hl.TyD.plain.eq_4 (And.intro @Go.Hl.TyD.plain.eq_5 @Go.Hl.bytesC_map)))))))))
def sE := (And.intro (And.intro (And.intro (And.intro @Go.Hl.hlex.eq_1 @Go.Hl.hlex.eq_2) (And.intro @Go.Hl.hwalk2.eq_1 @Go.Hl.hwalk2.eq_2)) (And.intro (And.intro @Go.Hl.hlexG.eq_1 @Go.Hl.hlexG.eq_2) (And.intro @Go.Hl.hwalk2G.eq_1 @Go.Hl.hwalk2G.eq_2))) (And.intro (And.intro (And.intro @Go.Hl.hthen.eq_1 @Go.Hl.hthen.eq_2) (And.intro @Go.Hl.hblk.eq_1 @Go.Hl.hblk.eq_2)) (And.intro (And.intro @List.size_toArray.{0} @List.length_cons.{0}) (And.intro @List.length_nil.{0} @Nat.zero_add))))
def sR := (And.intro (And.intro (And.intro @List.range.eq_1 @List.range.loop.eq_1) (And.intro @List.range.loop.eq_2 @List.size_toArray.{0})) (And.intro (And.intro @List.length_cons.{0} @List.length_nil.{0}) (And.intro @Nat.zero_add @Nat.add_zero)))
def sH := (And.intro (And.intro @Go.Hl.hop1.eq_1 (And.intro @Go.Hl.hgd.eq_1 @Go.Hl.hgd.eq_2)) (And.intro @List.getElem_toArray.{0} (And.intro @List.getElem_cons_zero.{0} @List.getElem_cons_succ.{0})))
def tyS := (And.intro (And.intro (And.intro (And.intro (And.intro (And.intro (And.intro @ty1 (And.intro @ty2 @ty3)) (And.intro @ty4 (And.intro @ty5 @ty6))) (And.intro (And.intro @ty7 (And.intro @ty8 @ty9)) (And.intro (And.intro @ty10 @ty11) (And.intro @ty12 @ty13)))) (And.intro (And.intro (And.intro @ty14 (And.intro @ty15 @ty16)) (And.intro (And.intro @ty17 @ty18) (And.intro @ty19 @ty20))) (And.intro (And.intro @ty21 (And.intro @ty22 @ty23)) (And.intro (And.intro @ty24 @ty25) (And.intro @ty26 @ty27))))) (And.intro (And.intro (And.intro (And.intro @ty28 (And.intro @ty29 @ty30)) (And.intro @ty31 (And.intro @ty33 @ty34))) (And.intro (And.intro @ty35 (And.intro @ty36 @ty37)) (And.intro (And.intro @ty38 @ty39) (And.intro @ty40 @ty41)))) (And.intro (And.intro (And.intro @ty43 (And.intro @ty45 @ty46)) (And.intro (And.intro @ty47 @ty48) (And.intro @ty49 @ty50))) (And.intro (And.intro @ty51 (And.intro @ty52 @ty53)) (And.intro (And.intro @ty54 @ty55) (And.intro @ty56 @ty57)))))) (And.intro (And.intro (And.intro (And.intro (And.intro @ty58 (And.intro @ty59 @ty60)) (And.intro @ty61 (And.intro @ty62 @ty63))) (And.intro (And.intro @ty64 (And.intro @ty65 @ty66)) (And.intro (And.intro @ty67 @ty68) (And.intro @ty69 @ty70)))) (And.intro (And.intro (And.intro @ty71 (And.intro @ty72 @ty73)) (And.intro (And.intro @ty74 @ty75) (And.intro @ty76 @ty77))) (And.intro (And.intro @ty78 (And.intro @ty79 @ty80)) (And.intro (And.intro @ty81 @ty82) (And.intro @ty83 @ty84))))) (And.intro (And.intro (And.intro (And.intro @ty85 (And.intro @ty86 @ty87)) (And.intro @ty88 (And.intro @ty89 @ty90))) (And.intro (And.intro @ty91 (And.intro @ty92 @ty93)) (And.intro (And.intro @ty94 @ty96) (And.intro @ty97 @ty99)))) (And.intro (And.intro (And.intro @ty100 (And.intro @ty102 @ty103)) (And.intro (And.intro @ty104 @ty105) (And.intro @ty106 @ty107))) (And.intro (And.intro @ty108 (And.intro @ty109 @ty110)) (And.intro (And.intro @ty111 @ty112) (And.intro @ty114 @ty115))))))) (And.intro (And.intro (And.intro (And.intro (And.intro (And.intro @ty116 (And.intro @ty117 @ty118)) (And.intro @ty119 (And.intro @ty120 @ty121))) (And.intro (And.intro @ty122 (And.intro @ty123 @ty124)) (And.intro (And.intro @ty125 @ty126) (And.intro @ty127 @ty128)))) (And.intro (And.intro (And.intro @ty129 (And.intro @ty130 @ty132)) (And.intro (And.intro @ty133 @ty134) (And.intro @ty135 @ty137))) (And.intro (And.intro @ty139 (And.intro @ty140 @ty142)) (And.intro (And.intro @ty143 @ty144) (And.intro @ty145 @ty146))))) (And.intro (And.intro (And.intro (And.intro @ty147 (And.intro @ty148 @ty149)) (And.intro @ty150 (And.intro @ty151 @ty152))) (And.intro (And.intro @ty153 (And.intro @ty154 @ty155)) (And.intro (And.intro @ty156 @ty157) (And.intro @ty158 @ty159)))) (And.intro (And.intro (And.intro @ty160 (And.intro @ty161 @ty162)) (And.intro (And.intro @ty163 @ty164) (And.intro @ty165 @ty166))) (And.intro (And.intro @ty167 (And.intro @ty168 @ty170)) (And.intro (And.intro @ty171 @ty172) (And.intro @ty173 @ty175)))))) (And.intro (And.intro (And.intro (And.intro (And.intro @ty176 (And.intro @ty177 @ty178)) (And.intro @ty179 (And.intro @ty180 @ty181))) (And.intro (And.intro @ty182 (And.intro @ty184 @ty185)) (And.intro (And.intro @ty186 @ty187) (And.intro @ty188 @ty189)))) (And.intro (And.intro (And.intro @ty190 (And.intro @ty191 @ty192)) (And.intro (And.intro @ty193 @ty194) (And.intro @ty195 @ty196))) (And.intro (And.intro @ty197 (And.intro @ty198 @ty199)) (And.intro (And.intro @ty200 @ty202) (And.intro @ty203 @ty204))))) (And.intro (And.intro (And.intro (And.intro @ty205 (And.intro @ty207 @ty208)) (And.intro (And.intro @ty209 @ty211) (And.intro @ty213 @ty214))) (And.intro (And.intro @ty215 (And.intro @ty216 @ty217)) (And.intro (And.intro @ty218 @ty220) (And.intro @ty221 @ty222)))) (And.intro (And.intro (And.intro @ty223 (And.intro @ty224 @ty228)) (And.intro (And.intro @ty229 @ty230) (And.intro @ty231 @ty232))) (And.intro (And.intro @ty233 (And.intro @ty234 @ty235)) (And.intro (And.intro @eqdg48 @nedg48) (And.intro @eqdg49 @nedg49))))))))
theorem AI {p q : Prop} (h : q) (hp : p := by first | omega | (simp only [maxLen]; omega) | assumption | (simp [CV.cells]; done) | (simp [CV.cells, maxLen]; omega)) : p ∧ q := ⟨hp, h⟩
section
variable {P : Program} {ops : Array Oper} {nx : Nat} {Q : Fr → Ob → Prop} {fr : Fr} {ob : Ob} {c : Bool}
theorem hlex_cases {l : List Nat} (d : Nat) (h : fr d = .c (.bool c)) (hT : c = true → hlex P ops nx Q l fr ob) (hF : c = false → hlex P ops nx Q l fr ob) : hlex P ops nx Q l fr ob := by
  cases c
  · exact hF rfl
  · exact hT rfl
theorem hwalk2_cases {l : Plan} {C : Pend} (d : Nat) (h : fr d = .c (.bool c)) (hT : c = true → hwalk2 P ops nx Q l C fr ob) (hF : c = false → hwalk2 P ops nx Q l C fr ob) : hwalk2 P ops nx Q l C fr ob := by
  cases c
  · exact hF rfl
  · exact hT rfl
end
end Go.Proofs.YtenbfeemmpjdhaaGreatDoor

namespace Go.Hl
open Go

inductive HasTy (P : Program) : TypeId → CV → Prop where
 | bool {t : TypeId} (hu : P.underlying t = some .bool) (b : Bool) : HasTy P t (.bool b)
 | int {t : TypeId} {k : IntKind} (hu : P.underlying t = some (.int k)) {n : Int} (hw : (Lit.int k n).wf = true) : HasTy P t (.int k n)
 | str {t : TypeId} (hu : P.underlying t = some .string) {s : List UInt8} (hs : s.length ≤ maxLen) : HasTy P t (.str s)
 | slc {t e : TypeId} (hu : P.underlying t = some (.slice e)) {l : List CV} (hl : ∀ x ∈ l, HasTy P e x) (hn : l.length ≤ maxLen) : HasTy P t (.slc l)
 | arr {t e : TypeId} {m : Nat} (hu : P.underlying t = some (.array m e)) {l : List CV} (hl : ∀ x ∈ l, HasTy P e x) (hn : l.length = m) : HasTy P t (.agg l)
 | struct {t : TypeId} {fs : Array Field} (hu : P.underlying t = some (.struct fs)) {l : List CV} (hn : l.length = fs.size) (hl : ∀ (i : Nat) (f : Field) (x : CV), fs.toList[i]? = some f → l[i]? = some x → HasTy P f.type x) : HasTy P t (.agg l)

theorem HasTy.of_int {P : Program} {t : TypeId} {k : IntKind} {c : CV} (hu : P.underlying t = some (.int k)) (h : HasTy P t c) : ∃ n, c = .int k n ∧ (Lit.int k n).wf = true := by
 cases h with
 | int h2 hw => rw [hu] at h2; cases h2; exact ⟨_, rfl, hw⟩
 | bool h2 | str h2 | slc h2 | arr h2 | struct h2 => rw [hu] at h2; cases h2
theorem HasTy.of_slc {P : Program} {t e : TypeId} {c : CV} (hu : P.underlying t = some (.slice e)) (h : HasTy P t c) : ∃ l, c = .slc l ∧ (∀ x ∈ l, HasTy P e x) ∧ l.length ≤ maxLen := by
 cases h with
 | slc h2 hl hn => rw [hu] at h2; cases h2; exact ⟨_, rfl, hl, hn⟩
 | int h2 | bool h2 | str h2 | arr h2 | struct h2 => rw [hu] at h2; cases h2
def plainT (P : Program) : Nat → TypeId → Bool
 | 0, _ => false
 | n + 1, t => match P.underlying t with
  | some .bool | some (.int _) | some .string => true
  | some (.slice e) => plainT P n e
  | some (.array _ e) => plainT P n e
  | some (.struct fs) => fs.toList.all fun f => plainT P n f.type
  | _ => false

theorem build_list {α : Type} {w : World} {O : Nat → Prop} {g : α → List Value} {R : α → CV → Prop} : ∀ (l : List α), (∀ a ∈ l, ∃ c, RepC w O c (g a) ∧ R a c) →
  ∃ cl : List CV, RepL w O cl (l.flatMap g) ∧ cl.length = l.length ∧ ∀ (i : Nat) a c, l[i]? = some a → cl[i]? = some c → R a c
 | [], _ => ⟨[], by simp [RepL], rfl, by simp⟩
 | a :: l, h => by
  obtain ⟨c, h1, h2⟩ := h a (by simp)
  obtain ⟨cl, h3, h4, h5⟩ := build_list l (fun x hx => h x (by simp [hx]))
  refine ⟨c :: cl, by simp only [List.flatMap_cons, RepL]; exact ⟨_, _, rfl, h1, h3⟩, by simp [h4], fun i x y hx hy => ?_⟩
  cases i with
  | zero => simp at hx hy; rw [← hx, ← hy]; exact h2
  | succ i => simp at hx hy; exact h5 i x y hx hy

theorem flat_parts {cw : Field → Nat} {cs : List Value} : ∀ (fs : List Field) (k : Nat), (∀ (j : Nat) f, fs[j]? = some f → f.offset = k + ((fs.take j).map cw).sum) →
  fs.flatMap (fun f => (cs.drop f.offset).take (cw f)) = (cs.drop k).take ((fs.map cw).sum)
 | [], k, _ => by simp
 | f :: fs, k, h => by
  have h0 := h 0 f rfl
  simp only [List.take_zero, List.map_nil, List.sum_nil, Nat.add_zero] at h0
  have ih := flat_parts (cw := cw) (cs := cs) fs (k + cw f) (fun j g hg => by
   have := h (j + 1) g (by simpa using hg)
   simp only [List.take_succ_cons, List.map_cons, List.sum_cons] at this
   omega)
  simp only [List.flatMap_cons, List.map_cons, List.sum_cons, ih, h0]
  rw [← List.drop_drop, ← List.take_add]

theorem flat_range {cs : List Value} (c : Nat) : ∀ (m : Nat), (List.range m).flatMap (fun i => (cs.drop (i * c)).take c) = cs.take (m * c)
 | 0 => by simp
 | m + 1 => by
  rw [List.range_succ, List.flatMap_append, flat_range c m]
  simp only [List.flatMap_cons, List.flatMap_nil, List.append_nil]
  rw [← List.take_add, Nat.succ_mul]

theorem flat_cells {w : World} {a : Addr} {c : Nat} {g : Nat → List Value} : ∀ (m : Nat), (∀ i, i < m → (g i).length = c ∧ ∀ r, r < c → w.cell? ((a.add (i * c)).add r) = (g i)[r]?) →
  ((List.range m).flatMap g).length = m * c ∧ ∀ j u, ((List.range m).flatMap g)[j]? = some u → w.cell? (a.add j) = some u
 | 0, _ => by simp
 | m + 1, h => by
  obtain ⟨h1, h2⟩ := flat_cells m (fun i hi => h i (by omega))
  obtain ⟨h3, h4⟩ := h m (by omega)
  rw [List.range_succ, List.flatMap_append]
  simp only [List.flatMap_cons, List.flatMap_nil, List.append_nil]
  refine ⟨by rw [List.length_append, h1, h3, Nat.succ_mul], fun j u hj => ?_⟩
  by_cases hlt : j < m * c
  ·
   rw [List.getElem?_append_left (by omega)] at hj
   exact h2 j u hj
  ·
   rw [List.getElem?_append_right (by omega), h1] at hj
   have hr : j - m * c < c := by
    have := (List.getElem?_eq_some_iff.1 hj).1
    omega
   have := h4 (j - m * c) hr
   rw [Addr.add_add, hj, show m * c + (j - m * c) = j from by omega] at this
   exact this

section
variable {H : Type} {enc : TypeId × Value → H} {P : Program} {T : TypeId → Prop} {w : World} {base : Nat} {sp : Nat → Bool} {held : Bool}

theorem trod_rep (K : Kids P T) : ∀ (m : Nat) (t : TypeId), plainT P m t = true → T t → ∀ (n : Nat) (cs : List Value) (x : DataW H × List MemPlace), DataW.trod enc P w base sp held n t cs = some x →
  ∃ c, RepC w (fun _ => False) c cs ∧ HasTy P t c ∧ cs.length = cs.length
 | 0, t, hp, _, _, _, _, _ => by simp [plainT] at hp
 | m + 1, t, hp, hT, 0, cs, x, h => by simp [DataW.trod] at h
 | m + 1, t, hp, hT, n + 1, cs, x, h => by
  unfold plainT at hp
  split at hp
  ·
   rename_i hu
   unfold DataW.trod at h
   rw [hu] at h
   split at h
   case h_1 => rename_i b h1; exact ⟨.bool b, by simp [RepC], .bool hu b, rfl⟩
   all_goals simp_all
  ·
   rename_i k hu
   unfold DataW.trod at h
   rw [hu] at h
   split at h
   case h_2 =>
    rename_i k' k2 n2 h1
    cases h1
    split at h
    ·
     rename_i hc
     obtain ⟨rfl, hw⟩ := hc
     exact ⟨.int _ n2, by simp [RepC], .int hu hw, rfl⟩
    ·
     cases h
   all_goals simp_all
  ·
   rename_i hu
   unfold DataW.trod at h
   rw [hu] at h
   split at h
   case h_4 =>
    rename_i s h1
    split at h
    ·
     rename_i hc
     refine ⟨.str s.data.toList, by simp [RepC], .str hu ?_, rfl⟩
     have : s.data.toList.length = s.size := by rw [Array.length_toList]; rfl
     omega
    ·
     cases h
   all_goals simp_all
  ·
   rename_i e hu
   unfold DataW.trod at h
   rw [hu] at h
   split at h
   case h_7 =>
    rename_i el h1
    exact ⟨.slc [], by simp only [RepC]; exact ⟨none, 0, [], 0, rfl, by simp [RepL], by simp, by simp, fun _ => rfl, fun ad had => (by cases had)⟩, .slc hu (by simp) (by simp), rfl⟩
   case h_8 =>
    rename_i e' a len cap h1
    cases h1
    simp only at h
    split at h
    ·
     rename_i hc
     obtain ⟨hb, hlc, hcm⟩ := hc
     rw [Option.bind_eq_some_iff] at h
     obtain ⟨elems, he, _⟩ := h
     have hel : ∀ i, i < len → ∃ cl, w.cells? base (a.add (i * P.cellsOf e)) (P.cellsOf e) = some cl ∧ ∃ y, DataW.trod enc P w base sp held n e cl = some y := fun i hi => by
      have := mapM_some_get he i i (by simp [hi])
      have hlen := mapM_some_length he
      simp only [List.length_range] at hlen
      rw [List.getElem?_eq_getElem (by omega)] at this
      rw [Option.bind_eq_some_iff] at this
      obtain ⟨cl, h3, h4⟩ := this
      exact ⟨cl, h3, _, h4⟩
     let g : Nat → List Value := fun i => (w.cells? base (a.add (i * P.cellsOf e)) (P.cellsOf e)).getD []
     have hg : ∀ i, i < len → (g i).length = P.cellsOf e ∧ ∀ r, r < P.cellsOf e → w.cell? ((a.add (i * P.cellsOf e)).add r) = (g i)[r]? := fun i hi => by
      obtain ⟨cl, h3, _⟩ := hel i hi
      obtain ⟨_, h4, h5⟩ := World.cells?_some h3
      have : g i = cl := by simp [g, h3]
      rw [this]; exact ⟨h4, h5⟩
     obtain ⟨cl, hr, hlen, hty⟩ := build_list (w := w) (O := fun _ => False) (g := g) (R := fun i c => HasTy P e c ∧ c.cells = P.cellsOf e) (List.range len) (fun i hi => by
      have hi' := List.mem_range.1 hi
      obtain ⟨cl, h3, y, h4⟩ := hel i hi'
      have hgi : g i = cl := by simp [g, h3]
      obtain ⟨c, q1, q2, _⟩ := trod_rep K m e hp (K.slice hT hu) n cl y h4
      exact ⟨c, by rw [hgi]; exact q1, q2, by rw [← repC_len q1, (World.cells?_some h3).2.1]⟩)
     simp only [List.length_range] at hlen
     have hmem : ∀ x ∈ cl, HasTy P e x ∧ x.cells = P.cellsOf e := fun x hx => by
      obtain ⟨i, hi, rfl⟩ := List.getElem_of_mem hx
      exact hty i i _ (List.getElem?_range (by omega)) (by rw [List.getElem?_eq_getElem hi])
     refine ⟨.slc cl, ?_, .slc hu (fun x hx => (hmem x hx).1) (by omega), rfl⟩
     simp only [RepC]
     refine ⟨some a, cap, _, P.cellsOf e, by rw [hlen], hr, fun v hv => (hmem v hv).2, by omega, fun hh => (by cases hh), fun ad had => ?_⟩
     cases had
     exact ⟨(flat_cells len hg).2, fun _ h => h⟩
    ·
     cases h
   all_goals simp_all
  ·
   rename_i k e hu
   unfold DataW.trod at h
   rw [hu] at h
   split at h
   case h_10 =>
    rename_i cs0 _ _ k' e' h1
    cases h1
    split at h
    ·
     rename_i hc
     rw [Option.map_eq_some_iff] at h
     obtain ⟨xs, hxs, _⟩ := h
     obtain ⟨hTe, hce⟩ := K.array hT hu
     obtain ⟨cl, hr, hlen, hty⟩ := build_list (w := w) (O := fun _ => False) (g := fun i => (cs0.drop (i * P.cellsOf e)).take (P.cellsOf e)) (R := fun i c => HasTy P e c) (List.range k) (fun i hi => by
      have hi' := List.mem_range.1 hi
      have := mapM_some_get hxs i i (by simp [hi'])
      have hlen := mapM_some_length hxs
      simp only [List.length_range] at hlen
      rw [List.getElem?_eq_getElem (by omega)] at this
      obtain ⟨c, q1, q2, _⟩ := trod_rep K m e hp hTe n _ _ this
      exact ⟨c, q1, q2⟩)
     simp only [List.length_range] at hlen
     rw [flat_range, ← hce, ← hc, List.take_length] at hr
     refine ⟨.agg cl, hr, .arr hu (fun x hx => ?_) hlen, rfl⟩
     obtain ⟨i, hi, rfl⟩ := List.getElem_of_mem hx
     exact hty i i _ (List.getElem?_range (by omega)) (by rw [List.getElem?_eq_getElem hi])
    ·
     cases h
   all_goals simp_all
  ·
   rename_i fs hu
   unfold DataW.trod at h
   rw [hu] at h
   split at h
   case h_9 =>
    rename_i cs0 _ _ fs' h1
    cases h1
    split at h
    ·
     rename_i hc
     rw [Option.map_eq_some_iff] at h
     obtain ⟨xs, hxs, _⟩ := h
     obtain ⟨hTf, hsum, hoff⟩ := K.struct hT hu
     obtain ⟨cl, hr, hlen, hty⟩ := build_list (w := w) (O := fun _ => False) (g := fun f : Field => (cs0.drop f.offset).take (P.cellsOf f.type)) (R := fun f c => HasTy P f.type c) fs.toList (fun f hf => by
      obtain ⟨i, hi, rfl⟩ := List.getElem_of_mem hf
      have := mapM_some_get hxs i _ (List.getElem?_eq_getElem hi)
      have hlen := mapM_some_length hxs
      rw [List.getElem?_eq_getElem (by omega)] at this
      obtain ⟨c, q1, q2, _⟩ := trod_rep K m _ (List.all_eq_true.1 hp _ (List.getElem_mem hi)) (hTf _ (List.getElem_mem hi)) n _ _ this
      exact ⟨c, q1, q2⟩)
     rw [flat_parts (cw := fun f => P.cellsOf f.type) fs.toList 0 (fun j f hf => by rw [hoff j f hf]; omega), List.drop_zero, ← hsum, ← hc, List.take_length] at hr
     exact ⟨.agg cl, hr, .struct hu (by simpa using hlen) hty, rfl⟩
    ·
     cases h
   all_goals simp_all
  ·
   cases hp

theorem isAgg_of_okWide {t : TypeId} {v : Value} {c : CV} (hc : HasTy P t c) (h : Value.okWide P w .any base t v) : c.isAgg = Value.isAgg' v := by
 cases hc with
 | bool hu b => unfold Value.okWide at h; rw [hu] at h; simp only [Cell.okWide, hu] at h; cases v <;> simp_all [Cell.ok, CV.isAgg, Value.isAgg']
 | int hu hw => unfold Value.okWide at h; rw [hu] at h; simp only [Cell.okWide, hu] at h; cases v <;> simp_all [Cell.ok, CV.isAgg, Value.isAgg']
 | str hu hs => unfold Value.okWide at h; rw [hu] at h; simp only [Cell.okWide, hu] at h; cases v <;> simp_all [Cell.ok, CV.isAgg, Value.isAgg']
 | slc hu hl hn => unfold Value.okWide at h; rw [hu] at h; simp only [Cell.okWide, hu] at h; cases v <;> simp_all [Cell.ok, CV.isAgg, Value.isAgg']
 | arr hu hl hn => unfold Value.okWide at h; rw [hu] at h; obtain ⟨cs, rfl, _⟩ := h; rfl
 | struct hu hn hl => unfold Value.okWide at h; rw [hu] at h; obtain ⟨cs, rfl, _⟩ := h; rfl

theorem own_none (b : Nat) : ¬ Own (fun _ => none) b := by rintro ⟨_, _, h, _⟩; cases h

theorem trodAll_reps (K : Kids P T) {m : Nat} : ∀ {ts : List TypeId} {vs : List Value} {ds : List (DataW H)} {ps : List MemPlace}, DataW.TrodAll enc P w base sp held ts vs ds ps → (∀ t ∈ ts, plainT P m t = true ∧ T t) →
  (∀ (j : Nat) t v, ts[j]? = some t → vs[j]? = some v → Value.okWide P w .any 0 t v) →
  ∃ cs : List CV, RepHV w (fun _ => none) (Owned (fun _ => none) (fun _ => False)) (cs.map .c) vs ∧ cs.length = ts.length ∧ ds.length = ts.length ∧ ∀ (j : Nat) t c, ts[j]? = some t → cs[j]? = some c → HasTy P t c
 | [], vs, ds, ps, h, _, _ => by
  obtain ⟨rfl, rfl, rfl⟩ := ChangeShapes.trodAll_nil h
  exact ⟨[], by simp [RepHV], rfl, rfl, by simp⟩
 | t :: ts, vs, ds, ps, h, hp, ho => by
  obtain ⟨v, vs1, d, ds1, a, b, rfl, rfl, rfl, ⟨n, h1⟩, h2⟩ := ChangeShapes.trodAll_cons h
  obtain ⟨c, q1, q2, _⟩ := trod_rep (w := w) K m t (hp t (by simp)).1 (hp t (by simp)).2 n _ _ h1
  obtain ⟨cs, r1, r2, r3, r4⟩ := trodAll_reps K h2 (fun t ht => hp t (by simp [ht])) (fun j t v h3 h4 => ho (j + 1) t v (by simpa using h3) (by simpa using h4))
  have hst : Stay w (fun _ => False) w (Owned (fun _ => none) (fun _ => False)) := ⟨fun b _ _ => ⟨rfl, fun hb => hb.elim (fun x => x) (own_none b)⟩⟩
  refine ⟨c :: cs, ?_, by simp [r2], by simp [r3], fun j t' c' h3 h4 => ?_⟩
  ·
   rw [List.map_cons, repHV_cons]
   exact ⟨v, vs1, rfl, ⟨by simp only [RepH]; exact q1.stay hst, isAgg_of_okWide q2 (ho 0 t v rfl rfl)⟩, r1⟩
  ·
   cases j with
   | zero => simp at h3 h4; rw [← h3, ← h4]; exact q2
   | succ j => simp at h3 h4; exact r4 j t' c' h3 h4

theorem sameAt_lt {w w' : World} (h : ∀ b, b < w.heap.size → w'.heap[b]? = w.heap[b]?) {p : MemPlace} (hp : p.block < w.heap.size) : w.sameAt w' p := by
 cases p with
 | cell b off => exact World.cell?_of_block (h b hp)
 | map b => exact h b hp

theorem trodAll_carry {w' : World} : ∀ {ts : List TypeId} {vs : List Value} {ds : List (DataW H)} {ps : List MemPlace}, DataW.TrodAll enc P w base sp held ts vs ds ps → (∀ p ∈ ps, w.sameAt w' p) → DataW.TrodAll enc P w' base sp held ts vs ds ps
 | [], _, _, _, h, _ => by
  obtain ⟨rfl, rfl, rfl⟩ := ChangeShapes.trodAll_nil h
  exact ChangeShapes.trodAll_mk0
 | t :: ts, _, _, _, h, hs => by
  obtain ⟨v, vs1, d, ds1, a, b, rfl, rfl, rfl, ⟨n, h1⟩, h2⟩ := ChangeShapes.trodAll_cons h
  exact ⟨a, b, ⟨n, DataW.trod_carry n t _ _ h1 (fun p hp => hs p (List.mem_append_left _ hp))⟩, trodAll_carry h2 (fun p hp => hs p (List.mem_append_right _ hp)), rfl⟩

theorem keptBut_lt {w w' : World} (h1 : w'.os = w.os) (h2 : w'.output = w.output) (h : ∀ b, b < w.heap.size → w'.heap[b]? = w.heap[b]?) (may : MemPlace → Prop) : w.keptBut w' may := by
 refine ⟨h1, h2, fun i hi => ?_⟩
 rw [h i hi]
 cases w.heap[i]? with
 | none => rfl
 | some o => cases o <;> simp

theorem law_post {f : FuncId} {fn : Func} {s : ChangeSpec} {mm : Nat} {tb : TypeId} (hok : callOk P f = true) (K : Kids P T) (hz : ∀ t e, T t → P.underlying t = some (.slice e) → 0 < P.cellsOf e) (hvars : s.vars = []) (hres : fn.resultTypes = #[tb]) (htb : P.underlying tb = some .bool)
  (hspec : ∀ (H : Type) (ds : List (DataW H)), ds.length = fn.params.toList.length → (s.fn H ds).results = [.lit (.bool true)] ∧ (s.fn H ds).args = ds ∧ (s.fn H ds).vars = []) (hpl : ∀ t ∈ fn.params.toList, plainT P mm t = true ∧ T t)
  (hlaw : ∀ cs : List CV, cs.length = fn.params.toList.length → (∀ (j : Nat) t c, fn.params.toList[j]? = some t → cs[j]? = some c → HasTy P t c) → HPure P f cs (fun v => v = .bool true))
  {W : World} {args : Array Value} {ds gs : List (DataW H)} {before : List MemPlace} (hval : ∀ (j : Nat) t v, fn.params[j]? = some t → args[j]? = some v → Value.okWide P W .any 0 t v)
  (hW : DataW.Whole enc P fn.params.toList s.vars false W args.toList ds gs before) :
  Calls P f args W fun e W' => ∃ v, e = .returned v ∧ s.post enc P fn false true false false W args v W' := by
 have hW' := hW
 obtain ⟨p, q, hA, hV, rfl, hfz, hnd⟩ := hW
 rw [hvars] at hV
 obtain ⟨rfl, rfl⟩ := ChangeShapes.trodVars_none hV
 simp only [List.append_nil] at hW' hfz
 obtain ⟨cs, r1, r2, r3, r4⟩ := trodAll_reps (m := mm) K hA hpl (fun j t v h1 h2 => hval j t v (by simpa using h1) (by simpa using h2))
 obtain ⟨_, hrun⟩ := hlaw cs r2 r4
 have hS : RepS W (fun _ => none) (fun _ => False) none0 := ⟨fun _ _ h => (by simp [none0] at h), fun _ _ => rfl, fun _ _ _ _ _ h => (by simp at h), fun _ _ _ h => (by simp at h)⟩
 have hcall := hrun W (fun _ => none) (fun _ => False) args.toList hS r1 (fun _ h => h.elim)
 rw [Array.toArray_toList] at hcall
 refine (hcall.calls hok).mono ?_
 rintro e W' ⟨r, ob', ρ', x, rfl, ⟨v, rfl, rfl, rfl⟩, hg⟩
 obtain ⟨hr1, hr2⟩ := hg.v
 have hx : x = .bool true := by
  have hag : Value.isAgg' x = false := by rw [← hr2]; rfl
  rw [cells_single hag] at hr1
  simpa [RepH, RepC] using hr1
 subst hx
 have hheap : ∀ b, b < W.heap.size → W'.heap[b]? = W.heap[b]? := fun b hb => hg.stay.block b hb (own_none b)
 obtain ⟨s1, s2, s3⟩ := hspec H (ds ++ []) (by simpa using r3)
 have hlt : ∀ a ∈ p, a.block < W.heap.size := hA.lt
 have args' : ∀ sp : Nat → Bool, (∀ a ∈ p, sp a.block = true) → DataW.TrodAll enc P W' 0 sp true fn.params.toList args.toList ds p := fun sp hsp =>
  trodAll_carry (hA.respare K hz (fun t ht => (hpl t ht).2) hsp) (fun a ha => sameAt_lt hheap (hlt a ha))
 have hrl : Value.resultList fn.resultTypes.size (.bool true) = [.bool true] := by rw [hres]; rfl
 have hresT : ∀ (b : Nat) (sp : Nat → Bool) (hd : Bool), DataW.TrodAll enc P W' b sp hd fn.resultTypes.toList (Value.resultList fn.resultTypes.size (.bool true)) [.lit (.bool true)] [] := fun b sp hd => by
  rw [hrl, hres]
  exact trodAll_cons_mk (RowKit.shut_bool htb true) ChangeShapes.trodAll_mk0
 refine ⟨.bool true, rfl, ds, [], p, [], p, [], by simpa using hW', ?_, ?_, ?_, ?_, ?_⟩
 ·
  rw [s1]; exact hresT _ _ _
 ·
  rw [s2]; simpa using args' _ (fun a ha => by simpa using hlt a ha)
 ·
  rw [s3, hvars]; rfl
 ·
  exact keptBut_lt hg.stay.os hg.stay.output hheap _
 ·
  intro h; cases h
end
end Go.Hl

namespace Go.Hl
open Go

section
variable {P : Program} {av : List Nat} {f : FuncId} {ob : Ob} {nid id n : Nat} {K : HV → Ob → Prop} {T e : TypeId} {sz : Nat} {v : CV} {l : List CV}
end
def HPure2 (P : Program) (f : FuncId) (args : List CV) (R : CV → CV → Prop) : Prop :=
 HFn P f (args.map .c) 0 none0 (fun r ob' => ∃ u v, r = .tup [.c u, .c v] ∧ R u v ∧ ob' = none0)
theorem hret_pure2 {ob : Ob} {r : HV} {R : CV → CV → Prop} (cl : List Nat) (u v : CV) (h : (r.close ob cl).norm = .tup [.c u, .c v]) (hR : R u v) : HRet 0 r ob (fun r ob' => ∃ u v, r = .tup [.c u, .c v] ∧ R u v ∧ ob' = none0) :=
 ⟨cl, id, .tup [.c u, .c v], none0, ⟨u, v, rfl, hR, rfl⟩, by rw [h]; rfl, fun _ h => by omega, fun _ _ _ _ h => h, by simp [HV.men, HV.menL], fun j o h => by simp [none0] at h⟩
theorem call_pure2 {P : Program} {av : List Nat} {f : FuncId} {ob : Ob} {nid : Nat} {K : HV → Ob → Prop} {args : List CV} {R : CV → CV → Prop} (h : HPure2 P f args R) (hfree : Free4 ob nid) (hK : ∀ u v, R u v → K (.tup [.c u, .c v]) ob) :
  HCall P av f (args.map .c) ob nid K := by
 refine ⟨[], args.map .c, none0, _, h, locOk_nil args, ⟨List.nodup_nil, by simp⟩, (HV.renL_c _ _).symm, fun j o h => by simp [none0] at h, fun r lob' hR _ => ?_⟩
 obtain ⟨u, v, rfl, hv, rfl⟩ := hR
 rw [obAfter_nil hfree.all]
 exact hK u v hv
end Go.Hl
