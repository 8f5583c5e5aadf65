/- HL: rows that a function makes and hands back as the caller's own; rows that are lent. By an AI agent. -/
import Derived.Test.YtlldglbooaefhaaGreatDoorChecked
import Derived.Test.YtlldglbooaefhaaGreatDoorPl11
import Derived.Test.YtlldglbooaefhaaGreatDoorHlK
import Derived.Laws.Externs
import Derived.Lib.BytesEntry
set_option linter.unusedSimpArgs false
set_option linter.unusedVariables false
set_option linter.defProp false
namespace Go.Proofs
namespace YtlldglbooaefhaaGreatDoor
open Go Go.Hl Go.Pl
theorem ty1 :aO Tryz.prog 1=some ⟨1,8,.func,.nilf⟩:=by kernel_rfl
theorem ty2 :aO Tryz.prog 2=some ⟨1,8,.int .i64,.int .i64 0⟩:=by kernel_rfl
theorem ty3 :aO Tryz.prog 3=some ⟨1,8,.int .i64,.int .i64 0⟩:=by kernel_rfl
theorem ty4 :aO Tryz.prog 4=some ⟨1,1,.bool,.bool false⟩:=by kernel_rfl
theorem ty5 :aO Tryz.prog 5=some ⟨1,1,.int .u8,.int .u8 0⟩:=by kernel_rfl
theorem ty6 :aO Tryz.prog 6=some ⟨1,1,.int .u8,.int .u8 0⟩:=by kernel_rfl
theorem ty7 :aO Tryz.prog 7=some ⟨4,24,.struct [(0,2),(1,3),(2,4),(3,6)],.agg [.int .i64 0,.int .i64 0,.bool false,.int .u8 0]⟩:=by kernel_rfl
theorem ty8 :aO Tryz.prog 8=some ⟨4,24,.struct [(0,2),(1,3),(2,4),(3,6)],.agg [.int .i64 0,.int .i64 0,.bool false,.int .u8 0]⟩:=by kernel_rfl
theorem ty9 :aO Tryz.prog 9=some ⟨1,16,.string,.str []⟩:=by kernel_rfl
theorem ty10 :aO Tryz.prog 10=some ⟨1,16,.string,.str []⟩:=by kernel_rfl
theorem ty11 :aO Tryz.prog 11=some ⟨1,16,.string,.str []⟩:=by kernel_rfl
theorem ty12 :aO Tryz.prog 12=some ⟨1,8,.int .u64,.int .u64 0⟩:=by kernel_rfl
theorem ty13 :aO Tryz.prog 13=some ⟨2,24,.struct [(0,9),(1,12)],.agg [.str [],.int .u64 0]⟩:=by kernel_rfl
theorem ty14 :aO Tryz.prog 14=some ⟨2,24,.struct [(0,9),(1,12)],.agg [.str [],.int .u64 0]⟩:=by kernel_rfl
theorem ty15 :aO Tryz.prog 15=some ⟨1,8,.pointer 188,.nilp⟩:=by kernel_rfl
theorem ty16 :aO Tryz.prog 16=some ⟨1,8,.pointer 191,.nilp⟩:=by kernel_rfl
theorem ty17 :aO Tryz.prog 17=some ⟨1,8,.pointer 200,.nilp⟩:=by kernel_rfl
theorem ty18 :aO Tryz.prog 18=some ⟨1,8,.struct [(0,17)],.agg [.nilp]⟩:=by kernel_rfl
theorem ty19 :aO Tryz.prog 19=some ⟨1,8,.struct [(0,17)],.agg [.nilp]⟩:=by kernel_rfl
theorem ty20 :aO Tryz.prog 20=some ⟨1,16,.iface true,.nili⟩:=by kernel_rfl
theorem ty21 :aO Tryz.prog 21=some ⟨1,4,.int .i32,.int .i32 0⟩:=by kernel_rfl
theorem ty22 :aO Tryz.prog 22=some ⟨1,24,.slice 40,.nils⟩:=by kernel_rfl
theorem ty23 :aO Tryz.prog 23=some ⟨1,24,.slice 3,.nils⟩:=by kernel_rfl
theorem ty24 :aO Tryz.prog 24=some ⟨1,24,.slice 4,.nils⟩:=by kernel_rfl
theorem ty25 :aO Tryz.prog 25=some ⟨1,8,.func,.nilf⟩:=by kernel_rfl
theorem ty26 :aO Tryz.prog 26=some ⟨1,8,.func,.nilf⟩:=by kernel_rfl
theorem ty27 :aO Tryz.prog 27=some ⟨1,8,.func,.nilf⟩:=by kernel_rfl
theorem ty28 :aO Tryz.prog 28=some ⟨1,8,.func,.nilf⟩:=by kernel_rfl
theorem ty29 :aO Tryz.prog 29=some ⟨1,8,.func,.nilf⟩:=by kernel_rfl
theorem ty30 :aO Tryz.prog 30=some ⟨1,8,.func,.nilf⟩:=by kernel_rfl
theorem ty31 :aO Tryz.prog 31=some ⟨1,8,.func,.nilf⟩:=by kernel_rfl
theorem ty32 :aO Tryz.prog 32=some ⟨1,8,.func,.nilf⟩:=by kernel_rfl
theorem ty33 :aO Tryz.prog 33=some ⟨1,8,.func,.nilf⟩:=by kernel_rfl
theorem ty34 :aO Tryz.prog 34=some ⟨1,8,.pointer 83,.nilp⟩:=by kernel_rfl
theorem ty35 :aO Tryz.prog 35=some ⟨1,8,.func,.nilf⟩:=by kernel_rfl
theorem ty36 :aO Tryz.prog 36=some ⟨1,8,.func,.nilf⟩:=by kernel_rfl
theorem ty37 :aO Tryz.prog 37=some ⟨4,40,.struct [(0,3),(1,2),(2,2),(3,9)],.agg [.int .i64 0,.int .i64 0,.int .i64 0,.str []]⟩:=by kernel_rfl
theorem ty38 :aO Tryz.prog 38=some ⟨4,40,.struct [(0,3),(1,2),(2,2),(3,9)],.agg [.int .i64 0,.int .i64 0,.int .i64 0,.str []]⟩:=by kernel_rfl
theorem ty39 :aO Tryz.prog 39=some ⟨7,64,.struct [(0,3),(1,3),(2,3),(3,38)],.agg [.int .i64 0,.int .i64 0,.int .i64 0,.agg [.int .i64 0,.int .i64 0,.int .i64 0,.str []]]⟩:=by kernel_rfl
theorem ty40 :aO Tryz.prog 40=some ⟨7,64,.struct [(0,3),(1,3),(2,3),(3,38)],.agg [.int .i64 0,.int .i64 0,.int .i64 0,.agg [.int .i64 0,.int .i64 0,.int .i64 0,.str []]]⟩:=by kernel_rfl
theorem ty41 :aO Tryz.prog 41=some ⟨1,8,.int .u64,.int .u64 0⟩:=by kernel_rfl
theorem ty42 :aO Tryz.prog 42=some ⟨1,8,.func,.nilf⟩:=by kernel_rfl
theorem ty43 :aO Tryz.prog 43=some ⟨1,24,.slice 54,.nils⟩:=by kernel_rfl
theorem ty44 :aO Tryz.prog 44=some ⟨3,48,.struct [(0,9),(1,2),(2,43)],.agg [.str [],.int .i64 0,.nils]⟩:=by kernel_rfl
theorem ty45 :aO Tryz.prog 45=some ⟨3,48,.struct [(0,9),(1,2),(2,43)],.agg [.str [],.int .i64 0,.nils]⟩:=by kernel_rfl
theorem ty46 :aO Tryz.prog 46=some ⟨1,8,.func,.nilf⟩:=by kernel_rfl
theorem ty47 :aO Tryz.prog 47=some ⟨1,24,.slice 5,.nils⟩:=by kernel_rfl
theorem ty48 :aO Tryz.prog 48=some ⟨1,8,.int .i64,.int .i64 0⟩:=by kernel_rfl
theorem ty50 :aO Tryz.prog 50=some ⟨1,8,.func,.nilf⟩:=by kernel_rfl
theorem ty51 :aO Tryz.prog 51=some ⟨1,8,.func,.nilf⟩:=by kernel_rfl
theorem ty52 :aO Tryz.prog 52=some ⟨1,8,.pointer 54,.nilp⟩:=by kernel_rfl
theorem ty53 :aO Tryz.prog 53=some ⟨5,80,.struct [(0,9),(1,9),(2,9),(3,2),(4,22)],.agg [.str [],.str [],.str [],.int .i64 0,.nils]⟩:=by kernel_rfl
theorem ty54 :aO Tryz.prog 54=some ⟨5,80,.struct [(0,9),(1,9),(2,9),(3,2),(4,22)],.agg [.str [],.str [],.str [],.int .i64 0,.nils]⟩:=by kernel_rfl
theorem ty55 :aO Tryz.prog 55=some ⟨1,8,.func,.nilf⟩:=by kernel_rfl
theorem ty57 :aO Tryz.prog 57=some ⟨1,8,.func,.nilf⟩:=by kernel_rfl
theorem ty58 :aO Tryz.prog 58=some ⟨1,8,.func,.nilf⟩:=by kernel_rfl
theorem ty59 :aO Tryz.prog 59=some ⟨1,8,.func,.nilf⟩:=by kernel_rfl
theorem ty60 :aO Tryz.prog 60=some ⟨1,24,.slice 9,.nils⟩:=by kernel_rfl
theorem ty61 :aO Tryz.prog 61=some ⟨1,8,.func,.nilf⟩:=by kernel_rfl
theorem ty62 :aO Tryz.prog 62=some ⟨1,24,.slice 60,.nils⟩:=by kernel_rfl
theorem ty63 :aO Tryz.prog 63=some ⟨1,8,.func,.nilf⟩:=by kernel_rfl
theorem ty64 :aO Tryz.prog 64=some ⟨1,8,.func,.nilf⟩:=by kernel_rfl
theorem ty65 :aO Tryz.prog 65=some ⟨1,8,.func,.nilf⟩:=by kernel_rfl
theorem ty67 :aO Tryz.prog 67=some ⟨1,8,.func,.nilf⟩:=by kernel_rfl
theorem ty68 :aO Tryz.prog 68=some ⟨1,8,.func,.nilf⟩:=by kernel_rfl
theorem ty69 :aO Tryz.prog 69=some ⟨1,8,.func,.nilf⟩:=by kernel_rfl
theorem ty70 :aO Tryz.prog 70=some ⟨1,8,.func,.nilf⟩:=by kernel_rfl
theorem ty71 :aO Tryz.prog 71=some ⟨1,8,.func,.nilf⟩:=by kernel_rfl
theorem ty72 :aO Tryz.prog 72=some ⟨1,8,.func,.nilf⟩:=by kernel_rfl
theorem ty73 :aO Tryz.prog 73=some ⟨1,8,.func,.nilf⟩:=by kernel_rfl
theorem ty74 :aO Tryz.prog 74=some ⟨1,8,.func,.nilf⟩:=by kernel_rfl
theorem ty75 :aO Tryz.prog 75=some ⟨1,8,.func,.nilf⟩:=by kernel_rfl
theorem ty76 :aO Tryz.prog 76=some ⟨1,8,.func,.nilf⟩:=by kernel_rfl
theorem ty77 :aO Tryz.prog 77=some ⟨1,8,.func,.nilf⟩:=by kernel_rfl
theorem ty78 :aO Tryz.prog 78=some ⟨1,8,.func,.nilf⟩:=by kernel_rfl
theorem ty79 :aO Tryz.prog 79=some ⟨1,8,.func,.nilf⟩:=by kernel_rfl
theorem ty80 :aO Tryz.prog 80=some ⟨1,8,.func,.nilf⟩:=by kernel_rfl
theorem ty81 :aO Tryz.prog 81=some ⟨1,8,.func,.nilf⟩:=by kernel_rfl
theorem ty82 :aO Tryz.prog 82=some ⟨2,32,.struct [(0,23),(1,3)],.agg [.nils,.int .i64 0]⟩:=by kernel_rfl
theorem ty83 :aO Tryz.prog 83=some ⟨2,32,.struct [(0,23),(1,3)],.agg [.nils,.int .i64 0]⟩:=by kernel_rfl
theorem ty84 :aO Tryz.prog 84=some ⟨1,8,.func,.nilf⟩:=by kernel_rfl
theorem ty86 :aO Tryz.prog 86=some ⟨1,8,.func,.nilf⟩:=by kernel_rfl
theorem ty87 :aO Tryz.prog 87=some ⟨1,8,.func,.nilf⟩:=by kernel_rfl
theorem ty88 :aO Tryz.prog 88=some ⟨1,8,.func,.nilf⟩:=by kernel_rfl
theorem ty89 :aO Tryz.prog 89=some ⟨1,8,.func,.nilf⟩:=by kernel_rfl
theorem ty90 :aO Tryz.prog 90=some ⟨1,8,.map 9 4,.nilm⟩:=by kernel_rfl
theorem ty91 :aO Tryz.prog 91=some ⟨1,8,.func,.nilf⟩:=by kernel_rfl
theorem ty92 :aO Tryz.prog 92=some ⟨1,8,.pointer 94,.nilp⟩:=by kernel_rfl
theorem ty93 :aO Tryz.prog 93=some ⟨2,32,.struct [(0,62),(1,3)],.agg [.nils,.int .i64 0]⟩:=by kernel_rfl
theorem ty94 :aO Tryz.prog 94=some ⟨2,32,.struct [(0,62),(1,3)],.agg [.nils,.int .i64 0]⟩:=by kernel_rfl
theorem ty96 :aO Tryz.prog 96=some ⟨1,8,.func,.nilf⟩:=by kernel_rfl
theorem ty97 :aO Tryz.prog 97=some ⟨1,8,.func,.nilf⟩:=by kernel_rfl
theorem ty98 :aO Tryz.prog 98=some ⟨1,8,.pointer 100,.nilp⟩:=by kernel_rfl
theorem ty99 :aO Tryz.prog 99=some ⟨5,80,.struct [(0,45),(3,23),(4,4)],.agg [.agg [.str [],.int .i64 0,.nils],.nils,.bool false]⟩:=by kernel_rfl
theorem ty100 :aO Tryz.prog 100=some ⟨5,80,.struct [(0,45),(3,23),(4,4)],.agg [.agg [.str [],.int .i64 0,.nils],.nils,.bool false]⟩:=by kernel_rfl
theorem ty101 :aO Tryz.prog 101=some ⟨1,8,.func,.nilf⟩:=by kernel_rfl
theorem ty102 :aO Tryz.prog 102=some ⟨1,8,.func,.nilf⟩:=by kernel_rfl
theorem ty103 :aO Tryz.prog 103=some ⟨1,8,.func,.nilf⟩:=by kernel_rfl
theorem ty104 :aO Tryz.prog 104=some ⟨1,8,.func,.nilf⟩:=by kernel_rfl
theorem ty106 :aO Tryz.prog 106=some ⟨1,8,.func,.nilf⟩:=by kernel_rfl
theorem ty107 :aO Tryz.prog 107=some ⟨1,8,.func,.nilf⟩:=by kernel_rfl
theorem ty108 :aO Tryz.prog 108=some ⟨1,8,.func,.nilf⟩:=by kernel_rfl
theorem ty109 :aO Tryz.prog 109=some ⟨1,8,.func,.nilf⟩:=by kernel_rfl
theorem ty110 :aO Tryz.prog 110=some ⟨1,8,.func,.nilf⟩:=by kernel_rfl
theorem ty111 :aO Tryz.prog 111=some ⟨1,8,.func,.nilf⟩:=by kernel_rfl
theorem ty112 :aO Tryz.prog 112=some ⟨1,8,.func,.nilf⟩:=by kernel_rfl
theorem ty113 :aO Tryz.prog 113=some ⟨1,8,.func,.nilf⟩:=by kernel_rfl
theorem ty114 :aO Tryz.prog 114=some ⟨1,8,.func,.nilf⟩:=by kernel_rfl
theorem ty115 :aO Tryz.prog 115=some ⟨1,8,.func,.nilf⟩:=by kernel_rfl
theorem ty116 :aO Tryz.prog 116=some ⟨1,8,.int .u64,.int .u64 0⟩:=by kernel_rfl
theorem ty117 :aO Tryz.prog 117=some ⟨1,24,.slice 140,.nils⟩:=by kernel_rfl
theorem ty119 :aO Tryz.prog 119=some ⟨1,8,.func,.nilf⟩:=by kernel_rfl
theorem ty120 :aO Tryz.prog 120=some ⟨1,24,.slice 143,.nils⟩:=by kernel_rfl
theorem ty122 :aO Tryz.prog 122=some ⟨1,8,.func,.nilf⟩:=by kernel_rfl
theorem ty124 :aO Tryz.prog 124=some ⟨1,8,.func,.nilf⟩:=by kernel_rfl
theorem ty125 :aO Tryz.prog 125=some ⟨1,8,.func,.nilf⟩:=by kernel_rfl
theorem ty126 :aO Tryz.prog 126=some ⟨1,8,.func,.nilf⟩:=by kernel_rfl
theorem ty127 :aO Tryz.prog 127=some ⟨1,8,.func,.nilf⟩:=by kernel_rfl
theorem ty128 :aO Tryz.prog 128=some ⟨1,8,.func,.nilf⟩:=by kernel_rfl
theorem ty130 :aO Tryz.prog 130=some ⟨1,8,.func,.nilf⟩:=by kernel_rfl
theorem ty132 :aO Tryz.prog 132=some ⟨1,8,.func,.nilf⟩:=by kernel_rfl
theorem ty133 :aO Tryz.prog 133=some ⟨1,8,.func,.nilf⟩:=by kernel_rfl
theorem ty135 :aO Tryz.prog 135=some ⟨1,8,.func,.nilf⟩:=by kernel_rfl
theorem ty136 :aO Tryz.prog 136=some ⟨1,8,.func,.nilf⟩:=by kernel_rfl
theorem ty137 :aO Tryz.prog 137=some ⟨1,8,.func,.nilf⟩:=by kernel_rfl
theorem ty138 :aO Tryz.prog 138=some ⟨1,8,.func,.nilf⟩:=by kernel_rfl
theorem ty139 :aO Tryz.prog 139=some ⟨2,16,.struct [(0,3),(1,5)],.agg [.int .i64 0,.int .u8 0]⟩:=by kernel_rfl
theorem ty140 :aO Tryz.prog 140=some ⟨2,16,.struct [(0,3),(1,5)],.agg [.int .i64 0,.int .u8 0]⟩:=by kernel_rfl
theorem ty141 :aO Tryz.prog 141=some ⟨1,8,.func,.nilf⟩:=by kernel_rfl
theorem ty142 :aO Tryz.prog 142=some ⟨2,16,.struct [(0,3),(1,5)],.agg [.int .i64 0,.int .u8 0]⟩:=by kernel_rfl
theorem ty143 :aO Tryz.prog 143=some ⟨2,16,.struct [(0,3),(1,5)],.agg [.int .i64 0,.int .u8 0]⟩:=by kernel_rfl
theorem ty144 :aO Tryz.prog 144=some ⟨1,8,.func,.nilf⟩:=by kernel_rfl
theorem ty145 :aO Tryz.prog 145=some ⟨1,8,.func,.nilf⟩:=by kernel_rfl
theorem ty146 :aO Tryz.prog 146=some ⟨1,8,.func,.nilf⟩:=by kernel_rfl
theorem ty147 :aO Tryz.prog 147=some ⟨1,8,.func,.nilf⟩:=by kernel_rfl
theorem ty149 :aO Tryz.prog 149=some ⟨1,8,.func,.nilf⟩:=by kernel_rfl
theorem ty150 :aO Tryz.prog 150=some ⟨1,8,.func,.nilf⟩:=by kernel_rfl
theorem ty151 :aO Tryz.prog 151=some ⟨1,8,.func,.nilf⟩:=by kernel_rfl
theorem ty153 :aO Tryz.prog 153=some ⟨1,8,.func,.nilf⟩:=by kernel_rfl
theorem ty154 :aO Tryz.prog 154=some ⟨1,8,.func,.nilf⟩:=by kernel_rfl
theorem ty155 :aO Tryz.prog 155=some ⟨24,24,.array 24 5,.agg [.int .u8 0,.int .u8 0,.int .u8 0,.int .u8 0,.int .u8 0,.int .u8 0,.int .u8 0,.int .u8 0,.int .u8 0,.int .u8 0,.int .u8 0,.int .u8 0,.int .u8 0,.int .u8 0,.int .u8 0,.int .u8 0,.int .u8 0,.int .u8 0,.int .u8 0,.int .u8 0,.int .u8 0,.int .u8 0,.int .u8 0,.int .u8 0]⟩:=by kernel_rfl
theorem ty156 :aO Tryz.prog 156=some ⟨1,8,.func,.nilf⟩:=by kernel_rfl
theorem ty157 :aO Tryz.prog 157=some ⟨1,8,.func,.nilf⟩:=by kernel_rfl
theorem ty159 :aO Tryz.prog 159=some ⟨1,8,.func,.nilf⟩:=by kernel_rfl
theorem ty160 :aO Tryz.prog 160=some ⟨1,8,.func,.nilf⟩:=by kernel_rfl
theorem ty162 :aO Tryz.prog 162=some ⟨1,8,.func,.nilf⟩:=by kernel_rfl
theorem ty164 :aO Tryz.prog 164=some ⟨1,8,.func,.nilf⟩:=by kernel_rfl
theorem ty165 :aO Tryz.prog 165=some ⟨1,8,.func,.nilf⟩:=by kernel_rfl
theorem ty166 :aO Tryz.prog 166=some ⟨1,8,.func,.nilf⟩:=by kernel_rfl
theorem ty167 :aO Tryz.prog 167=some ⟨1,8,.func,.nilf⟩:=by kernel_rfl
theorem ty168 :aO Tryz.prog 168=some ⟨1,8,.func,.nilf⟩:=by kernel_rfl
theorem ty169 :aO Tryz.prog 169=some ⟨20,160,.array 20 116,.agg [.int .u64 0,.int .u64 0,.int .u64 0,.int .u64 0,.int .u64 0,.int .u64 0,.int .u64 0,.int .u64 0,.int .u64 0,.int .u64 0,.int .u64 0,.int .u64 0,.int .u64 0,.int .u64 0,.int .u64 0,.int .u64 0,.int .u64 0,.int .u64 0,.int .u64 0,.int .u64 0]⟩:=by kernel_rfl
theorem ty170 :aO Tryz.prog 170=some ⟨1,4,.int .u32,.int .u32 0⟩:=by kernel_rfl
theorem ty171 :aO Tryz.prog 171=some ⟨65,65,.array 65 5,.agg [.int .u8 0,.int .u8 0,.int .u8 0,.int .u8 0,.int .u8 0,.int .u8 0,.int .u8 0,.int .u8 0,.int .u8 0,.int .u8 0,.int .u8 0,.int .u8 0,.int .u8 0,.int .u8 0,.int .u8 0,.int .u8 0,.int .u8 0,.int .u8 0,.int .u8 0,.int .u8 0,.int .u8 0,.int .u8 0,.int .u8 0,.int .u8 0,.int .u8 0,.int .u8 0,.int .u8 0,.int .u8 0,.int .u8 0,.int .u8 0,.int .u8 0,.int .u8 0,.int .u8 0,.int .u8 0,.int .u8 0,.int .u8 0,.int .u8 0,.int .u8 0,.int .u8 0,.int .u8 0,.int .u8 0,.int .u8 0,.int .u8 0,.int .u8 0,.int .u8 0,.int .u8 0,.int .u8 0,.int .u8 0,.int .u8 0,.int .u8 0,.int .u8 0,.int .u8 0,.int .u8 0,.int .u8 0,.int .u8 0,.int .u8 0,.int .u8 0,.int .u8 0,.int .u8 0,.int .u8 0,.int .u8 0,.int .u8 0,.int .u8 0,.int .u8 0,.int .u8 0]⟩:=by kernel_rfl
theorem ty172 :aO Tryz.prog 172=some ⟨1,8,.func,.nilf⟩:=by kernel_rfl
theorem ty173 :aO Tryz.prog 173=some ⟨1,8,.func,.nilf⟩:=by kernel_rfl
theorem ty175 :aO Tryz.prog 175=some ⟨1,8,.func,.nilf⟩:=by kernel_rfl
theorem ty176 :aO Tryz.prog 176=some ⟨1,8,.pointer 2,.nilp⟩:=by kernel_rfl
theorem ty177 :aO Tryz.prog 177=some ⟨1,24,.slice 176,.nils⟩:=by kernel_rfl
theorem ty178 :aO Tryz.prog 178=some ⟨1,8,.func,.nilf⟩:=by kernel_rfl
theorem ty180 :aO Tryz.prog 180=some ⟨2,2,.struct [(0,5),(1,5)],.agg [.int .u8 0,.int .u8 0]⟩:=by kernel_rfl
theorem ty181 :aO Tryz.prog 181=some ⟨2,2,.struct [(0,5),(1,5)],.agg [.int .u8 0,.int .u8 0]⟩:=by kernel_rfl
theorem ty182 :aO Tryz.prog 182=some ⟨32,32,.array 16 181,.agg [.agg [.int .u8 0,.int .u8 0],.agg [.int .u8 0,.int .u8 0],.agg [.int .u8 0,.int .u8 0],.agg [.int .u8 0,.int .u8 0],.agg [.int .u8 0,.int .u8 0],.agg [.int .u8 0,.int .u8 0],.agg [.int .u8 0,.int .u8 0],.agg [.int .u8 0,.int .u8 0],.agg [.int .u8 0,.int .u8 0],.agg [.int .u8 0,.int .u8 0],.agg [.int .u8 0,.int .u8 0],.agg [.int .u8 0,.int .u8 0],.agg [.int .u8 0,.int .u8 0],.agg [.int .u8 0,.int .u8 0],.agg [.int .u8 0,.int .u8 0],.agg [.int .u8 0,.int .u8 0]]⟩:=by kernel_rfl
theorem ty183 :aO Tryz.prog 183=some ⟨1,8,.func,.nilf⟩:=by kernel_rfl
theorem ty184 :aO Tryz.prog 184=some ⟨32,32,.array 32 5,zd⟩:=by kernel_rfl
theorem ty185 :aO Tryz.prog 185=some ⟨64,64,.array 64 5,us (uz 64)⟩:=by kernel_rfl
theorem ty186 :aO Tryz.prog 186=some ⟨1,8,.func,.nilf⟩:=by kernel_rfl
theorem ty187 :aO Tryz.prog 187=some ⟨4,40,.struct [(0,17),(1,17),(2,17),(3,9)],.agg [.nilp,.nilp,.nilp,.str []]⟩:=by kernel_rfl
theorem ty188 :aO Tryz.prog 188=some ⟨4,40,.struct [(0,17),(1,17),(2,17),(3,9)],.agg [.nilp,.nilp,.nilp,.str []]⟩:=by kernel_rfl
theorem ty192 :aO Tryz.prog 192=some ⟨1,8,.func,.nilf⟩:=by kernel_rfl
theorem ty193 :aO Tryz.prog 193=some ⟨1,1,.int .u8,.int .u8 0⟩:=by kernel_rfl
theorem ty194 :aO Tryz.prog 194=some ⟨1,1,.int .u8,.int .u8 0⟩:=by kernel_rfl
theorem ty195 :aO Tryz.prog 195=some ⟨1,8,.func,.nilf⟩:=by kernel_rfl
theorem ty196 :aO Tryz.prog 196=some ⟨1,8,.pointer 5,.nilp⟩:=by kernel_rfl
theorem ty197 :aO Tryz.prog 197=some ⟨1,4,.int .i32,.int .i32 0⟩:=by kernel_rfl
theorem ty198 :aO Tryz.prog 198=some ⟨1,4,.int .i32,.int .i32 0⟩:=by kernel_rfl
theorem ty199 :aO Tryz.prog 199=some ⟨11,48,.struct [(0,12),(1,12),(2,170),(3,193),(4,5),(5,5),(6,194),(7,195),(8,196),(9,197),(10,198)],.agg [.int .u64 0,.int .u64 0,.int .u32 0,.int .u8 0,.int .u8 0,.int .u8 0,.int .u8 0,.nilf,.nilp,.int .i32 0,.int .i32 0]⟩:=by kernel_rfl
theorem ty200 :aO Tryz.prog 200=some ⟨11,48,.struct [(0,12),(1,12),(2,170),(3,193),(4,5),(5,5),(6,194),(7,195),(8,196),(9,197),(10,198)],.agg [.int .u64 0,.int .u64 0,.int .u32 0,.int .u8 0,.int .u8 0,.int .u8 0,.int .u8 0,.nilf,.nilp,.int .i32 0,.int .i32 0]⟩:=by kernel_rfl
theorem eqdg184 (x y:Dig)(K:CV→Prop):jW Tryz.prog .eql 184 (.c (dg x)) (.c (dg y)) K=K (.bool (x==y)):=(aW8 (by kernel_rfl) ty184 ty5 (by kernel_rfl) x y K).1
theorem nedg184 (x y:Dig)(K:CV→Prop):jW Tryz.prog .neq 184 (.c (dg x)) (.c (dg y)) K=K (.bool (!(x==y))):=(aW8 (by kernel_rfl) ty184 ty5 (by kernel_rfl) x y K).2
theorem mixed :Tryz.prog.follows .mixedOrders=true:=by kernel_rfl
end YtlldglbooaefhaaGreatDoor
end Go.Proofs
namespace Go.Pl
open Go Go.Hl
structure Rq where
 k:Int
 n:Int
 m:Int
 t:aH
def Rq.cv (x:Rq):CV:= .agg [.int .i64 x.k,.int .i64 x.n,.int .i64 x.m,.str x.t]
theorem Rq.cells (x:Rq):x.cv.cells=4:=by simp[Rq.cv,CV.cells,CV.cellsL,dg_cells,aV]
theorem Rq.denil (x:Rq):x.cv.denil=x.cv:=by simp only[Rq.cv,CV.denil,CV.denilL,dg_denil,gS,denilL_str,denilL_dg]
theorem denilL_Rq (l:List Rq):CV.denilL (l.map Rq.cv)=l.map Rq.cv:=cI Rq.denil l
theorem Rq.isAgg (x:Rq):x.cv.isAgg=true:=rfl
theorem Rq.getAll (x:Rq):CV.getAt 0 4 true x.cv=some x.cv:=by
 have:=Rq.cells x;simp_all[Rq.cv,CV.cells,CV.getAt,and_self,if_true]
theorem Rq.setAll (x:Rq)(y:HV):CV.setAt 0 4 y x.cv=some y:=by
 have:=Rq.cells x;simp_all[Rq.cv,CV.cells,CV.setAt,and_self,if_true]
theorem Rq.fold (k:Int)(n:Int)(m:Int)(t:aH):CV.agg [.int .i64 k,.int .i64 n,.int .i64 m,.str t]=Rq.cv ⟨k,n,m,t⟩:=rfl
theorem Rq.get_k (x:Rq):CV.getAt 0 1 false x.cv=some (.int .i64 x.k):=by simp[Rq.cv,CV.getAt,CV.getAtL,CV.cells,CV.cellsL,dg_cells,aV]
theorem Rq.set_k (x:Rq)(y:HV):CV.setAt 0 1 y x.cv=some (.agg [y,.c (.int .i64 x.n),.c (.int .i64 x.m),.c (.str x.t)]):=by simp[Rq.cv,CV.setAt,CV.setAtL,CV.cells,CV.cellsL,dg_cells,aV]
theorem Rq.get_n (x:Rq):CV.getAt 1 1 false x.cv=some (.int .i64 x.n):=by simp[Rq.cv,CV.getAt,CV.getAtL,CV.cells,CV.cellsL,dg_cells,aV]
theorem Rq.set_n (x:Rq)(y:HV):CV.setAt 1 1 y x.cv=some (.agg [.c (.int .i64 x.k),y,.c (.int .i64 x.m),.c (.str x.t)]):=by simp[Rq.cv,CV.setAt,CV.setAtL,CV.cells,CV.cellsL,dg_cells,aV]
theorem Rq.get_m (x:Rq):CV.getAt 2 1 false x.cv=some (.int .i64 x.m):=by simp[Rq.cv,CV.getAt,CV.getAtL,CV.cells,CV.cellsL,dg_cells,aV]
theorem Rq.set_m (x:Rq)(y:HV):CV.setAt 2 1 y x.cv=some (.agg [.c (.int .i64 x.k),.c (.int .i64 x.n),y,.c (.str x.t)]):=by simp[Rq.cv,CV.setAt,CV.setAtL,CV.cells,CV.cellsL,dg_cells,aV]
theorem Rq.get_t (x:Rq):CV.getAt 3 1 false x.cv=some (.str x.t):=by simp[Rq.cv,CV.getAt,CV.getAtL,CV.cells,CV.cellsL,dg_cells,aV]
theorem Rq.set_t (x:Rq)(y:HV):CV.setAt 3 1 y x.cv=some (.agg [.c (.int .i64 x.k),.c (.int .i64 x.n),.c (.int .i64 x.m),y]):=by simp[Rq.cv,CV.setAt,CV.setAtL,CV.cells,CV.cellsL,dg_cells,aV]
structure Nd where
 k:Int
 n:Int
 c:Int
 q:Rq
def Nd.cv (x:Nd):CV:= .agg [.int .i64 x.k,.int .i64 x.n,.int .i64 x.c,x.q.cv]
theorem Nd.cells (x:Nd):x.cv.cells=7:=by simp[Nd.cv,CV.cells,CV.cellsL,dg_cells,aV,Rq.cells]
theorem Nd.denil (x:Nd):x.cv.denil=x.cv:=by simp only[Nd.cv,CV.denil,CV.denilL,dg_denil,gS,denilL_str,denilL_dg,Rq.denil]
theorem denilL_Nd (l:List Nd):CV.denilL (l.map Nd.cv)=l.map Nd.cv:=cI Nd.denil l
theorem Nd.isAgg (x:Nd):x.cv.isAgg=true:=rfl
theorem Nd.getAll (x:Nd):CV.getAt 0 7 true x.cv=some x.cv:=by
 have:=Nd.cells x;simp_all[Nd.cv,CV.cells,CV.getAt,and_self,if_true]
theorem Nd.setAll (x:Nd)(y:HV):CV.setAt 0 7 y x.cv=some y:=by
 have:=Nd.cells x;simp_all[Nd.cv,CV.cells,CV.setAt,and_self,if_true]
theorem Nd.fold (k:Int)(n:Int)(c:Int)(q:Rq):CV.agg [.int .i64 k,.int .i64 n,.int .i64 c,q.cv]=Nd.cv ⟨k,n,c,q⟩:=rfl
theorem Nd.get_k (x:Nd):CV.getAt 0 1 false x.cv=some (.int .i64 x.k):=by simp[Nd.cv,CV.getAt,CV.getAtL,CV.cells,CV.cellsL,dg_cells,aV,Rq.cells]
theorem Nd.set_k (x:Nd)(y:HV):CV.setAt 0 1 y x.cv=some (.agg [y,.c (.int .i64 x.n),.c (.int .i64 x.c),.c (x.q.cv)]):=by simp[Nd.cv,CV.setAt,CV.setAtL,CV.cells,CV.cellsL,dg_cells,aV,Rq.cells]
theorem Nd.get_n (x:Nd):CV.getAt 1 1 false x.cv=some (.int .i64 x.n):=by simp[Nd.cv,CV.getAt,CV.getAtL,CV.cells,CV.cellsL,dg_cells,aV,Rq.cells]
theorem Nd.set_n (x:Nd)(y:HV):CV.setAt 1 1 y x.cv=some (.agg [.c (.int .i64 x.k),y,.c (.int .i64 x.c),.c (x.q.cv)]):=by simp[Nd.cv,CV.setAt,CV.setAtL,CV.cells,CV.cellsL,dg_cells,aV,Rq.cells]
theorem Nd.get_c (x:Nd):CV.getAt 2 1 false x.cv=some (.int .i64 x.c):=by simp[Nd.cv,CV.getAt,CV.getAtL,CV.cells,CV.cellsL,dg_cells,aV,Rq.cells]
theorem Nd.set_c (x:Nd)(y:HV):CV.setAt 2 1 y x.cv=some (.agg [.c (.int .i64 x.k),.c (.int .i64 x.n),y,.c (x.q.cv)]):=by simp[Nd.cv,CV.setAt,CV.setAtL,CV.cells,CV.cellsL,dg_cells,aV,Rq.cells]
theorem Nd.get_q (x:Nd):CV.getAt 3 4 true x.cv=some (x.q.cv):=by simp[Nd.cv,CV.getAt,CV.getAtL,CV.cells,CV.cellsL,dg_cells,aV,Rq.cells,Rq.getAll]
theorem Nd.set_q (x:Nd)(y:HV):CV.setAt 3 4 y x.cv=some (.agg [.c (.int .i64 x.k),.c (.int .i64 x.n),.c (.int .i64 x.c),y]):=by simp[Nd.cv,CV.setAt,CV.setAtL,CV.cells,CV.cellsL,dg_cells,aV,Rq.cells,Rq.setAll]
structure Pr where
 a:aH
 b:aH
 c:aH
 g:Int
 t:List Nd
def Pr.cv (x:Pr):CV:= .agg [.str x.a,.str x.b,.str x.c,.int .i64 x.g,.slc (x.t.map Nd.cv)]
theorem Pr.cells (x:Pr):x.cv.cells=5:=by simp[Pr.cv,CV.cells,CV.cellsL,dg_cells,aV]
theorem Pr.denil (x:Pr):x.cv.denil=x.cv:=by simp only[Pr.cv,CV.denil,CV.denilL,dg_denil,gS,denilL_str,denilL_dg,denilL_Nd]
theorem denilL_Pr (l:List Pr):CV.denilL (l.map Pr.cv)=l.map Pr.cv:=cI Pr.denil l
theorem Pr.isAgg (x:Pr):x.cv.isAgg=true:=rfl
theorem Pr.getAll (x:Pr):CV.getAt 0 5 true x.cv=some x.cv:=by
 have:=Pr.cells x;simp_all[Pr.cv,CV.cells,CV.getAt,and_self,if_true]
theorem Pr.setAll (x:Pr)(y:HV):CV.setAt 0 5 y x.cv=some y:=by
 have:=Pr.cells x;simp_all[Pr.cv,CV.cells,CV.setAt,and_self,if_true]
theorem Pr.fold (a:aH)(b:aH)(c:aH)(g:Int)(t:List Nd):CV.agg [.str a,.str b,.str c,.int .i64 g,.slc (t.map Nd.cv)]=Pr.cv ⟨a,b,c,g,t⟩:=rfl
theorem Pr.get_a (x:Pr):CV.getAt 0 1 false x.cv=some (.str x.a):=by simp[Pr.cv,CV.getAt,CV.getAtL,CV.cells,CV.cellsL,dg_cells,aV]
theorem Pr.set_a (x:Pr)(y:HV):CV.setAt 0 1 y x.cv=some (.agg [y,.c (.str x.b),.c (.str x.c),.c (.int .i64 x.g),.c (.slc (x.t.map Nd.cv))]):=by simp[Pr.cv,CV.setAt,CV.setAtL,CV.cells,CV.cellsL,dg_cells,aV]
theorem Pr.get_b (x:Pr):CV.getAt 1 1 false x.cv=some (.str x.b):=by simp[Pr.cv,CV.getAt,CV.getAtL,CV.cells,CV.cellsL,dg_cells,aV]
theorem Pr.set_b (x:Pr)(y:HV):CV.setAt 1 1 y x.cv=some (.agg [.c (.str x.a),y,.c (.str x.c),.c (.int .i64 x.g),.c (.slc (x.t.map Nd.cv))]):=by simp[Pr.cv,CV.setAt,CV.setAtL,CV.cells,CV.cellsL,dg_cells,aV]
theorem Pr.get_c (x:Pr):CV.getAt 2 1 false x.cv=some (.str x.c):=by simp[Pr.cv,CV.getAt,CV.getAtL,CV.cells,CV.cellsL,dg_cells,aV]
theorem Pr.set_c (x:Pr)(y:HV):CV.setAt 2 1 y x.cv=some (.agg [.c (.str x.a),.c (.str x.b),y,.c (.int .i64 x.g),.c (.slc (x.t.map Nd.cv))]):=by simp[Pr.cv,CV.setAt,CV.setAtL,CV.cells,CV.cellsL,dg_cells,aV]
theorem Pr.get_g (x:Pr):CV.getAt 3 1 false x.cv=some (.int .i64 x.g):=by simp[Pr.cv,CV.getAt,CV.getAtL,CV.cells,CV.cellsL,dg_cells,aV]
theorem Pr.set_g (x:Pr)(y:HV):CV.setAt 3 1 y x.cv=some (.agg [.c (.str x.a),.c (.str x.b),.c (.str x.c),y,.c (.slc (x.t.map Nd.cv))]):=by simp[Pr.cv,CV.setAt,CV.setAtL,CV.cells,CV.cellsL,dg_cells,aV]
theorem Pr.get_t (x:Pr):CV.getAt 4 1 false x.cv=some (.slc (x.t.map Nd.cv)):=by simp[Pr.cv,CV.getAt,CV.getAtL,CV.cells,CV.cellsL,dg_cells,aV]
theorem Pr.set_t (x:Pr)(y:HV):CV.setAt 4 1 y x.cv=some (.agg [.c (.str x.a),.c (.str x.b),.c (.str x.c),.c (.int .i64 x.g),y]):=by simp[Pr.cv,CV.setAt,CV.setAtL,CV.cells,CV.cellsL,dg_cells,aV]
structure Po where
 n:aH
 v:Int
 r:List Pr
def Po.cv (x:Po):CV:= .agg [.str x.n,.int .i64 x.v,.slc (x.r.map Pr.cv)]
theorem Po.cells (x:Po):x.cv.cells=3:=by simp[Po.cv,CV.cells,CV.cellsL,dg_cells,aV]
theorem Po.denil (x:Po):x.cv.denil=x.cv:=by simp only[Po.cv,CV.denil,CV.denilL,dg_denil,gS,denilL_str,denilL_dg,denilL_Pr]
theorem denilL_Po (l:List Po):CV.denilL (l.map Po.cv)=l.map Po.cv:=cI Po.denil l
theorem Po.isAgg (x:Po):x.cv.isAgg=true:=rfl
theorem Po.getAll (x:Po):CV.getAt 0 3 true x.cv=some x.cv:=by
 have:=Po.cells x;simp_all[Po.cv,CV.cells,CV.getAt,and_self,if_true]
theorem Po.setAll (x:Po)(y:HV):CV.setAt 0 3 y x.cv=some y:=by
 have:=Po.cells x;simp_all[Po.cv,CV.cells,CV.setAt,and_self,if_true]
theorem Po.fold (n:aH)(v:Int)(r:List Pr):CV.agg [.str n,.int .i64 v,.slc (r.map Pr.cv)]=Po.cv ⟨n,v,r⟩:=rfl
theorem Po.get_n (x:Po):CV.getAt 0 1 false x.cv=some (.str x.n):=by simp[Po.cv,CV.getAt,CV.getAtL,CV.cells,CV.cellsL,dg_cells,aV]
theorem Po.set_n (x:Po)(y:HV):CV.setAt 0 1 y x.cv=some (.agg [y,.c (.int .i64 x.v),.c (.slc (x.r.map Pr.cv))]):=by simp[Po.cv,CV.setAt,CV.setAtL,CV.cells,CV.cellsL,dg_cells,aV]
theorem Po.get_v (x:Po):CV.getAt 1 1 false x.cv=some (.int .i64 x.v):=by simp[Po.cv,CV.getAt,CV.getAtL,CV.cells,CV.cellsL,dg_cells,aV]
theorem Po.set_v (x:Po)(y:HV):CV.setAt 1 1 y x.cv=some (.agg [.c (.str x.n),y,.c (.slc (x.r.map Pr.cv))]):=by simp[Po.cv,CV.setAt,CV.setAtL,CV.cells,CV.cellsL,dg_cells,aV]
theorem Po.get_r (x:Po):CV.getAt 2 1 false x.cv=some (.slc (x.r.map Pr.cv)):=by simp[Po.cv,CV.getAt,CV.getAtL,CV.cells,CV.cellsL,dg_cells,aV]
theorem Po.set_r (x:Po)(y:HV):CV.setAt 2 1 y x.cv=some (.agg [.c (.str x.n),.c (.int .i64 x.v),y]):=by simp[Po.cv,CV.setAt,CV.setAtL,CV.cells,CV.cellsL,dg_cells,aV]
def fI (a b:Rq):Bool:=a.k==b.k&&(a.n==b.n&&(a.m==b.m&&a.t==b.t))
theorem vS (a b:Rq):fI a b=true↔a=b:=by
 obtain⟨a1,a2,a3,a4⟩:=a;obtain⟨b1,b2,b3,b4⟩:=b;simp only[fI,Bool.and_eq_true,beq_iff_eq,Rq.mk.injEq]
def rq0 :Rq:=⟨0,0,0,[]⟩
def nd0 :Nd:=⟨0,0,0,rq0⟩
def inB (n lo hi:Int):Bool:=decide (lo≤n)&&decide (n≤hi)
def dR (q:Rq):Bool:=
 if q.k=1∨q.k=3∨q.k=5 then inB q.n 1 32&&(q.m==0&&q.t==[])
 else if q.k=4 then inB q.n 1 32&&(inB q.m 0 32&&q.t==[])
 else if q.k=2 then dG q.t&&(q.n==0&&q.m==0)
 else if q.k=6 then inB q.n 1 10&&(q.m==0&&q.t==[])
 else if q.k=7 then inB q.n 0 sC&&(q.m==0&&q.t==[])
 else if q.k=8 then q.n==0&&(q.m==0&&q.t==[])
 else false
def bR (n:Nd):Bool:=
 if n.k=1 then n.c==0&&(n.n==0&&dR n.q)
 else if n.k=2∨n.k=3 then inB n.c 1 60&&(fI n.q rq0&&n.n==0)
 else if n.k=4 then inB n.c 1 60&&(fI n.q rq0&&inB n.n 1 n.c)
 else false
theorem dV {n:Nd}(h:bR n=true):0≤n.c∧n.c≤60∧(n.k=1→n.c=0)∧(n.k≠1→1≤n.c):=by
 unfold bR inB at h;split at h
 · grind
 grind
def qF :List Nd→Int→Int→Option (Int×Int)
 |[],m,v=>some (m,v)
 |n::l,m,v=>if m=0 then none else if bR n then qF l (m+(n.c-1)) (if n.k=1 then v+1 else v)else none
def dK (l:List Nd):Bool:=decide (1≤l.length)&&(decide (l.length≤60)&&(match qF l 1 0 with|some (m,v)=>m==0&&decide (v≤16)|none=>false))
def lv :List Nd→Nat
 |[]=>0
 |n::l=>(if n.k=1 then 1 else 0)+lv l
theorem sD (a b:List Nd):lv (a++b)=lv a+lv b:=by
 induction a with
 |nil=>simp[lv]
 |cons n a ih=>grind[lv]
theorem cB7 (l:List Nd):lv l≤l.length:=by
 induction l with
 |nil=>simp[lv]
 |cons n l ih=>grind[lv,List.length_cons]
def skip :Nat→List Nd→Option (List Nd)
 |0,l=>some l
 |_+1,[]=>none
 |m+1,n::l=>skip (m+n.c.toNat) l
theorem cU (l:List Nd):skip 0 l=some l:=by cases l<;>rfl
theorem fJ : ∀(l:List Nd) (a b:Nat),skip (a+b) l=(skip a l).bind (skip b)
 |l,0,b=>by rw[Nat.zero_add,cU];rfl
 |[],a+1,b=>by rw[show a+1+b=a+b+1 from by omega];rfl
 |n::l,a+1,b=>by
  rw[show a+1+b=a+b+1 from by omega];show skip (a+b+n.c.toNat) l=(skip (a+n.c.toNat) l).bind (skip b);rw[show a+b+n.c.toNat=a+n.c.toNat+b from by omega];exact fJ l (a+n.c.toNat) b
theorem iA : ∀(l:List Nd) (m:Nat) (r:List Nd),skip m l=some r→ ∃j,j≤l.length∧r=l.drop j∧(0<m→0<j)∧m≤j+0*l.length+m
 |l,0,r,h=>by rw[cU]at h;cases h;exact⟨0,by omega,by simp,by omega,by omega⟩
 |[],m+1,r,h=>by cases h
 |n::l,m+1,r,h=>by
  obtain⟨j,h1,h2,_,_⟩:=iA l (m+n.c.toNat) r h;exact⟨j+1,by grind,by grind,by omega,by omega⟩
theorem yV : ∀(l:List Nd) (m:Nat) (v v':Int),qF l m v=some (0,v')→skip m l=some []∧v'=v+lv l∧ ∀n∈l,bR n=true
 |[],m,v,v',h=>by
  simp only[qF,Option.some.injEq,Prod.mk.injEq]at h;obtain⟨h1,rfl⟩:=h;have:m=0:=by omega
  subst this;exact⟨rfl,by simp[lv],by simp⟩
 |n::l,m,v,v',h=>by
  simp only[qF]at h;split at h
  · cases h
  ·
   rename_i h1;split at h
   ·
    rename_i h2;obtain⟨c1,c2,c3,c4⟩:=dV h2;obtain⟨k,rfl⟩: ∃k,m=k+1:=⟨m-1,by omega⟩;have e:((k+1:Nat):Int)+(n.c-1)=((k+n.c.toNat:Nat):Int):=by omega
    rw[e]at h;obtain⟨g1,g2,g3⟩:=yV l _ _ _ h;refine⟨g1,?_,fun x hx=>?_⟩
    · grind[lv]
    grind
   grind
structure IsTree (l:List Nd):Prop where
 ne:1≤l.length
 len:l.length≤60
 skip:skip 1 l=some []
 node: ∀n∈l,bR n=true
 lv:lv l≤16
theorem lA {l:List Nd}(h:dK l=true):IsTree l:=by
 unfold dK at h;simp only[Bool.and_eq_true,decide_eq_true_eq]at h;obtain⟨h1,h2,h3⟩:=h;split at h3
 · rename_i m v hs;simp only[Bool.and_eq_true,beq_iff_eq,decide_eq_true_eq]at h3;obtain⟨rfl,h4⟩:=h3;obtain⟨g1,g2,g3⟩:=yV l 1 0 v hs;exact⟨h1,h2,g1,g3,by omega⟩
 grind
theorem sF : ∀(l:List Nd) (m:Nat),skip m l=some []→(∀n∈l,bR n=true)→ ∀i,i<l.length→ ∃k,skip (k+1) (l.drop i)=some []
 |[],m,h,_,i,hi=>by grind
 |n::l,0,h,_,i,hi=>by grind[cU]
 |n::l,m+1,h,hn,0,hi=>⟨m,h⟩
 |n::l,m+1,h,hn,i+1,hi=>by
  have h':skip (m+n.c.toNat) l=some []:=h;exact sF l _ h' (fun x hx=>hn x (List.mem_cons_of_mem _ hx)) i (by grind)
variable {i:Nat}
theorem bK2 {l:List Nd}(h:IsTree l)(hi:i<l.length): ∃j,i<j∧j≤l.length∧skip 1 (l.drop i)=some (l.drop j):=by
 obtain⟨k,hk⟩:=sF l 1 h.skip h.node i hi;rw[Nat.add_comm,fJ]at hk;cases h1:skip 1 (l.drop i)with
 |none=>grind
 |some r=>
  grind[iA,List.length_drop,List.drop_drop]
def cN (c:UInt8):Bool:=decide ((33:Int)≤c.toNat)&&decide ((c.toNat:Int)≤125)&&((c.toNat:Int) !=37)
def nF (n:Nat):UInt8:=([48,49,50,51,52,53,54,55,56,57,65,66,67,68,69,70]:List UInt8).getD n 0
def jA (c:UInt8):List UInt8:=if cN c then [c]else [37,nF (c.toNat/16),nF (c.toNat%16)]
def cO (w:aH):aH:=w.flatMap jA
def gX (w:aH):aH:=if w=[]then [126]else cO w
def sizeW (w:aH):Nat:=max (cO w).length 1
@[simp] theorem cG8 :cO []=[]:=rfl
theorem bV2 (c:UInt8):(jA c).length≤3:=by grind[jA]
theorem bK3 (c:UInt8):1≤(jA c).length:=by grind[jA]
theorem qG (w:aH):(cO w).length≤3*w.length:=by
 induction w with
 |nil=>simp_all
 |cons c w ih=>
  grind[bV2,cO,List.length_append,List.length_cons]
theorem aJ7 (w:aH):w.length≤(cO w).length:=by
 induction w with
 |nil=>grind
 |cons c w ih=>
  grind[bK3,cO,List.length_append,List.length_cons]
theorem pJ {w:aH}(h:i<w.length):cO (w.take (i+1))=cO (w.take i)++jA w[i]:=by
 simp only[List.take_succ_eq_append_getElem h,cO,List.flatMap_append,List.flatMap_cons,List.flatMap_nil,List.append_nil]
theorem kQ (w:aH)(i:Nat):(cO (w.take i)).length≤(cO w).length:=by
 have:cO w=cO (w.take i)++cO (w.drop i):=by simp[cO,←List.flatMap_append]
 grind
theorem qH (w:aH):(gX w).length=sizeW w:=by
 unfold gX sizeW;split
 · simp_all
 · rename_i h;have:=aJ7 w;grind[List.length_pos_iff]
theorem nG (w:aH):sizeW w≤3*w.length+1:=by grind[qG,sizeW]
theorem yW (w:aH):1≤sizeW w:=by unfold sizeW;omega
theorem cL7 (n:Nat):(if(1:Int)>(n:Int)then(1:Int)else(n:Int))=((max n 1:Nat):Int):=by split<;>omega
theorem cI2 (c:UInt8):Int.fdiv (c.toNat:Int) (2^(min 4 IntKind.u8.bits))=((c.toNat/16:Nat):Int):=by
 rw[show min 4 IntKind.u8.bits=4 from rfl,Int.fdiv_eq_ediv_of_nonneg _ (by omega)];rfl
theorem cB8 (c:UInt8):IntKind.u8.wrap ((BitVec.ofInt IntKind.u8.bits (c.toNat:Int)&&&BitVec.ofInt IntKind.u8.bits 15).toNat:Int)=((c.toNat%16:Nat):Int):=by
 have h:=c.toNat_lt;have:(BitVec.ofInt IntKind.u8.bits (c.toNat:Int)&&&BitVec.ofInt IntKind.u8.bits 15).toNat=c.toNat%16:=by
  rw[BitVec.toNat_and];have e1:(BitVec.ofInt IntKind.u8.bits (c.toNat:Int)).toNat=c.toNat:=by simp[IntKind.bits]
  have e2:(BitVec.ofInt IntKind.u8.bits 15).toNat=15:=rfl;rw[e1,e2];exact Nat.and_two_pow_sub_one_eq_mod _ 4
 grind[IntWalk.u8_in]
theorem cX : ∀bs:List UInt8,CV.denilL (bs.map dF)=bs.map dF
 |[]=>rfl
 |b::bs=>by simp only[List.map_cons,CV.denilL,cX bs];rfl
def gH :List aH→aH
 |[]=>[]
 |w::l=>gX w++l.flatMap fun v=>32::gX v
theorem bC7 (l:List aH)(w:aH):gH (l++[w])=gH l++((if l=[]then []else [32])++gX w):=by
 cases l with
 |nil=>simp[gH]
 |cons a l=>simp[gH]
variable {l:List aH}
theorem yX (h:i<l.length):gH (l.take (i+1))=gH (l.take i)++((if i=0 then []else [32])++gX l[i]):=by grind[List.take_succ_eq_append_getElem,bC7,List.take_eq_nil_iff]
def xU (l:List aH):aH:=gH l++[10]
def fK (ls:List (List aH)):aH:=ls.flatMap xU
def iJ (l:List aH):Nat:=(l.map fun w=>sizeW w+1).sum
def sumD (ls:List (List aH)):Nat:=(ls.map iJ).sum
theorem aJ8 : ∀(l:List aH),l≠[]→(gH l).length+1=iJ l
 |[],h=>absurd rfl h
 |w::l,_=>by
  have: ∀l:List aH,(l.flatMap fun v=>32::gX v).length=iJ l:=by
   intro l;induction l with
   |nil=>rfl
   |cons v l ih=>grind[List.length_append,List.length_cons,qH,iJ]
  grind[gH,List.length_append,qH,iJ]
theorem bK4 (h:l≠[]):(xU l).length=iJ l:=by grind[xU,List.length_append,aJ8]
theorem aW9 (l:List aH):(gH l).length≤iJ l:=by
 cases l with
 |nil=>simp[gH]
 |cons w l=>grind[aJ8]
theorem qI : ∀{ls:List (List aH)},(∀l∈ls,l≠[])→(fK ls).length=sumD ls
 |[],_=>rfl
 |l::ls,h=>by
  have ih:=qI (ls:=ls) fun x hx=>h x (List.mem_cons_of_mem _ hx);grind[bK4,List.mem_cons_self,fK,sumD,List.length_append]
variable {ls:List (List aH)}
theorem yY (h:i<ls.length):fK (ls.take (i+1))=fK (ls.take i)++xU ls[i]:=by
 simp only[List.take_succ_eq_append_getElem h,fK,List.flatMap_append,List.flatMap_cons,List.flatMap_nil,List.append_nil]
theorem bC8 (h:i<l.length):iJ (l.take (i+1))=iJ (l.take i)+(sizeW l[i]+1):=by
 simp only[List.take_succ_eq_append_getElem h,iJ,List.map_append,List.sum_append,List.map_cons,List.map_nil,List.sum_cons,List.sum_nil,Nat.add_zero]
theorem bC9 (h:i<ls.length):sumD (ls.take (i+1))=sumD (ls.take i)+iJ ls[i]:=by
 simp only[List.take_succ_eq_append_getElem h,sumD,List.map_append,List.sum_append,List.map_cons,List.map_nil,List.sum_cons,List.sum_nil,Nat.add_zero]
@[simp] theorem cI3 :fK []=[]:=rfl
@[simp] theorem cI4 :gH []=[]:=rfl
@[simp] theorem cI5 :iJ []=0:=rfl
@[simp] theorem cI6 :sumD []=0:=rfl
theorem qJ (l:List aH)(i:Nat):iJ (l.take i)≤iJ l:=by grind[iJ,List.take_append_drop]
theorem aD2 (l:List (List aH))(i:Nat):sumD (l.take i)≤sumD l:=by grind[sumD,List.take_append_drop]
def lT (l:List aH):Int:=
 if l.length=0 then 1 else if 120<l.length then 3 else if l.any (fun w=>decide (32768<w.length))then 3 else 0
def okL (l:List aH):Bool:=lT l==0
theorem kG (l:List aH):okL l=true↔l≠[]∧l.length≤120∧ ∀w∈l,w.length≤32768:=by
 unfold okL lT;constructor
 ·
  intro h;split at h
  · grind
  ·
   split at h
   · grind
   · grind
 grind
theorem aX0 (h:okL l=true):iJ l≤11796720:=by
 obtain⟨-,h1,h2⟩:=(kG l).1 h;have key: ∀l:List aH,(∀w∈l,w.length≤32768)→iJ l≤98306*l.length:=by
  intro l;induction l with
  |nil=>simp_all
  |cons w l ih=>
   grind[List.mem_cons_of_mem,List.mem_cons_self,nG,iJ,List.length_cons]
 grind
theorem aX1 (h: ∀l∈ls,okL l=true):sumD ls≤11796720*ls.length:=by
 induction ls with
 |nil=>simp_all
 |cons l ls ih=>
  grind[List.mem_cons_of_mem,aX0,List.mem_cons_self,sumD,List.length_cons]
theorem bK5 (l:List aH)(h: ∀w∈l,w.length≤32768):(gH l).length≤98306*l.length:=by
 have h1:=aW9 l;have key: ∀l:List aH,(∀w∈l,w.length≤32768)→iJ l≤98306*l.length:=by
  intro l;induction l with
  |nil=>simp_all
  |cons w l ih=>
   grind[List.mem_cons_of_mem,List.mem_cons_self,nG,iJ,List.length_cons]
 grind
theorem sG {α:Type}{p:α→Prop}{l:List α}(h:i<l.length)(h1:p l[i])(h0: ∀x∈l.take i,p x): ∀x∈l.take (i+1),p x:=by
 intro x hx;rw[List.take_succ_eq_append_getElem h,List.mem_append,List.mem_singleton]at hx;grind
def jX (ls:List (List aH)):Int:=
 if 1000<ls.length then 3 else match ls.find? (fun l=>!okL l)with
  |some l=>lT l
  |none=>if 262144<(fK ls).length then 3 else 0
def nH (ls:List (List aH)):aH:=if jX ls=0 then fK ls else []
theorem yZ (h:1000<ls.length):jX ls=3:=by unfold jX;grind
theorem qK (h:ls.length≤1000)(hi:i<ls.length)(h0: ∀l∈ls.take i,okL l=true)(h1:okL ls[i]=false):jX ls=lT ls[i]:=by
 unfold jX;rw[if_neg (by omega)];grind[okL,List.find?_eq_some_iff_append,List.getElem_cons_drop,List.take_append_drop]
theorem aD3 (h:ls.length≤1000)(h0: ∀l∈ls,okL l=true):jX ls=if 262144<(fK ls).length then 3 else 0:=by
 unfold jX;grind
theorem bV3 (h:okL l=false):lT l≠0:=by grind[okL]
theorem iK (h:jX ls≠0):nH ls=[]:=by unfold nH;grind
theorem uL (h:jX ls=0):nH ls=fK ls:=by unfold nH;grind
def cB9 (n:Nat):UInt8:=([48,49,50,51,52,53,54,55,56,57,97,98,99,100,101,102]:List UInt8).getD n 0
def cL8 (c:UInt8):List UInt8:=[cB9 (c.toNat/16),cB9 (c.toNat%16)]
def cD9 (bs:List UInt8):List UInt8:=bs.flatMap cL8
@[simp] theorem cI7 :cD9 []=[]:=rfl
end Go.Pl
namespace Go.Hl
open Go Go.Pl
variable {fn:Func}{f:FuncId}{P:Program}
theorem zA {e:Array Value→Sem Value}{args:List CV}{R:CV→Prop}(hf:P.funcs[f]? =some fn)(hname:(fn.name== "runtime.NumGoroutine")=false)
  (hb:fn.body.isNone=true) (hn:Extern.findNext fn=none) (he:Extern.find fn=some e)
  (h: ∀(w:World) (ρ:Env) (O:Nat→Prop) (xs:List Value),RepHV w ρ O (args.map .c) xs→ ∃v x,R v∧RepV w ρ O (.c v) x∧(e xs.toArray).run P w= .ok x w):cA P f args R:=by
 refine⟨by grind[bB2],fun w ρ X xs hS hA hX=> .inr ⟨by grind[eQ,Option.isNone_iff_eq_none],?_⟩⟩;obtain⟨v,x,hR,hv,hrun⟩:=h w ρ _ xs hA;refine⟨x,by simp_all[run_callFunc_extern],.c v,cQ,ρ,x,rfl,⟨v,rfl,hR,rfl⟩,⟨hv,hS,by simp[HV.men],fun id o h=>by simp[cQ]at h,Stay2.refl _ _,Moves.refl _ _⟩⟩
theorem aX2 {w:World}{O:Nat→Prop}: ∀{l:List UInt8} {xs:List Value},RepL w O (l.map u8) xs→xs=l.map fun b=> .int .u8 (b.toNat:Int)
 |[],xs,h=>by simpa[RepL]using h
 |b::l,xs,h=>by
  simp only[List.map_cons,RepL,u8,RepC]at h;obtain⟨c1,c2,rfl,rfl,h2⟩:=h;rw[aX2 h2];rfl
variable {x:Value}{l:List UInt8}{O:Nat→Prop}{ρ:Env}{w:World}
theorem bD0 (h:RepV w ρ O (.c (.slc (l.map u8))) x):(Extern.Bytes.bytesOf x).run P w= .ok ⟨l.toArray⟩ w:=by
 have h1:=h.single rfl;simp only[RepC,List.cons.injEq,and_true]at h1;obtain⟨a,cap,xs,sz,rfl,h2,_,h4,h5,h6⟩:=h1;have hx:=aX2 h2;cases a with
 |none=>
  have:=h5 rfl;have hl:l=[]:=by
   have:l.length=0:=by simp only[List.length_map]at h4;omega
   exact List.eq_nil_of_length_eq_zero this
  subst hl;simp only[Extern.Bytes.bytesOf,Sem.run_pure];rfl
 |some ad=>
  have hr:=(h6 ad rfl).1;have:=Go.Lib.run_loadBytesX (P:=P) w (l.map fun b=>(b.toNat:Int)) ad .empty (fun j y hj=>hr j _ (by
   rw[hx];rw[List.getElem?_map]at hj⊢;cases hb:l[j]? with
   |none=>rw[hb]at hj;cases hj
   |some b=>rw[hb]at hj;cases hj;rfl))
  simp only[List.length_map]at this;simp only[Extern.Bytes.bytesOf,List.length_map,this];congr 2;simp only[Go.Lib.bytesOf,List.map_map];have e:l.map ((fun n:Int=>n.toNat.toUInt8)∘fun b:UInt8=>(b.toNat:Int))=l:=by
   conv=>rhs;rw[←List.map_id l]
   exact List.map_congr_left fun b _=>by simp
  rw[e];simp
theorem aR6 {p:Nat→Bool}(n:Nat):(List.range (n+1)).find? p=if p 0 then some 0 else((List.range n).find? fun i=>p (i+1)).map (· +1):=by
 rw[List.range_succ_eq_map,List.find?_cons,List.find?_map];split<;>simp_all[Function.comp];rfl
def dW (l:List UInt8)(c:UInt8):Int:=match l.findIdx? (· ==c)with|some i=>(i:Int)|none=> -1
theorem aJ9 {α:Type}{p:α→Bool}(d:α): ∀(l:List α),(List.range l.length).find? (fun i=>p (l.getD i d))=l.findIdx? p
 |[]=>rfl
 |a::l=>by
  rw[List.length_cons,aR6,List.findIdx?_cons];simp only[List.getD_cons_zero,List.getD_cons_succ];rw[aJ9 d l]
variable {c:UInt8}{y:Value}
theorem aX3 (hx:(Extern.Bytes.bytesOf x).run P w= .ok ⟨l.toArray⟩ w)(hy:(Extern.Bytes.asByte y).run P w= .ok c w):
  (Extern.BytealgIndexByte.indexByte #[x,y]).run P w= .ok (.int .i64 (dW l c)) w:=by
 change (Sem.run P (do
  let b←Extern.Bytes.bytesOf x
  let c←Extern.Bytes.asByte y
  match(List.range b.size).find? fun i=>b[i]! ==c with
  |some i=>pure (goInt i)
  |none=>pure (goInt (-1))) w)=_
 simp only[Sem.run_bind,hx,hy,Result.andThen_ok];have h1:(⟨l.toArray⟩:ByteArray).size=l.length:=by simp[ByteArray.size]
 have h2: ∀i:Nat,(⟨l.toArray⟩:ByteArray)[i]! =l.getD i 0:=fun i=>by exact Go.Lib.get!_eq l i
 simp only[h1,h2,aJ9 (p:=fun b=>b==c)];unfold dW;cases l.findIdx? fun b=>b==c<;>rfl
theorem vT (h:RepV w ρ O (.c (u8 c)) y):(Extern.Bytes.asByte y).run P w= .ok c w:=by
 have h1:=h.single rfl;simp_all[u8,RepC,List.cons.injEq,and_true,Extern.Bytes.asByte]
theorem cE0 (hf:P.funcs[f]? =some fn)(hname:(fn.name== "runtime.NumGoroutine")=false)(hb:fn.body.isNone=true)(hn:Extern.findNext fn=none)
  (he:Extern.find fn=some Extern.BytealgIndexByte.indexByte) (l:List UInt8) (c:UInt8):cA P f [.slc (l.map u8),u8 c] (fun v=>v= .int .i64 (dW l c)):=
 zA hf hname hb hn he fun w ρ O xs h=>by
  simp only[List.map_cons,List.map_nil,bK,RepHV]at h;obtain⟨x,l1,rfl,hx,y,l2,rfl,hy,rfl⟩:=h;exact⟨_,_,rfl,eK _ _ _ _ _,aX3 (bD0 hx) (vT hy)⟩
theorem bV4 (hf:P.funcs[f]? =some fn)(hname:(fn.name== "runtime.NumGoroutine")=false)(hb:fn.body.isNone=true)(hn:Extern.findNext fn=none)
  (he:Extern.find fn=some Extern.BytealgIndexByte.indexByte) (l:List UInt8) (c:UInt8):cA P f [.str l,u8 c] (fun v=>v= .int .i64 (dW l c)):=
 zA hf hname hb hn he fun w ρ O xs h=>by
  simp only[List.map_cons,List.map_nil,bK,RepHV]at h;obtain⟨x,l1,rfl,hx,y,l2,rfl,hy,rfl⟩:=h;have hx':(Extern.Bytes.bytesOf x).run P w= .ok ⟨l.toArray⟩ w:=by
   have h1:=hx.single rfl;simp only[RepC,List.cons.injEq,and_true]at h1;subst h1;rfl
  exact⟨_,_,rfl,eK _ _ _ _ _,aX3 hx' (vT hy)⟩
end Go.Hl
namespace Go.Pl
open Go Go.Hl
def aR (c:UInt8):List UInt8→List (List UInt8)
 |[]=>[[]]
 |b::l=>if b=c then []::aR c l else match aR c l with
  |x::xs=>(b::x)::xs
  |[]=>[[b]]
theorem dD (c:UInt8)(l:List UInt8):aR c l≠[]:=by
 cases l with
 |nil=>simp[aR]
 |cons b l=>grind[aR]
theorem pK (c:UInt8): ∀l:List UInt8,match l.findIdx? (· ==c)with
  |some i=>i<l.length∧aR c l=l.take i::aR c (l.drop (i+1))
  |none=>aR c l=[l]
 |[]=>rfl
 |b::l=>by
  have ih:=pK c l;rw[List.findIdx?_cons];by_cases h:b=c
  · grind[aR]
  ·
   have hb:(b==c)=false:=by simpa using h
   simp only[hb,Bool.false_eq_true,if_false];cases hf:l.findIdx? (· ==c)with
   |none=>
    simp_all[Option.map_none,aR,if_neg]
   |some i=>
    simp_all[Option.map_some,aR,if_neg,List.length_cons,List.take_succ_cons,List.drop_succ_cons,trivial]
variable {c:UInt8}
theorem nI {l:List UInt8}(h:dW l c<0):aR c l=[l]:=by
 have:=pK c l;grind[dW]
theorem eL {l:List UInt8}(h: ¬dW l c<0): ∃i:Nat,dW l c=(i:Int)∧i<l.length∧aR c l=l.take i::aR c (l.drop (i+1)):=by
 have:=pK c l;unfold dW at h⊢;grind
theorem kR (c:UInt8): ∀l:List UInt8,(aR c l).length≤l.length+1
 |[]=>by simp[aR]
 |b::l=>by
  have ih:=kR c l;grind[aR,List.length_cons]
theorem vU (c:UInt8): ∀(l:List UInt8),∀p∈aR c l,p.length≤l.length
 |[],p,hp=>by grind[aR]
 |b::l,p,hp=>by
  have ih:=vU c l;unfold aR at hp;split at hp
  · grind
  ·
   split at hp
   · grind
   grind
def valH (c:UInt8):Nat:=if 48≤c.toNat∧c.toNat≤57 then c.toNat-48 else if 65≤c.toNat∧c.toNat≤70 then c.toNat-55 else 16
def byteH (x y:UInt8):UInt8:=UInt8.ofNat (16*valH x+valH y)
def okH (x y:UInt8):Bool:=decide (valH x<16)&&decide (valH y<16)&&!cN (byteH x y)
def unB :List UInt8→Option aH
 |[]=>some []
 |c::l=>if cN c then(unB l).map (c::·)else if c=37 then match l with
   |x::y::l'=>if okH x y then(unB l').map (byteH x y::·)else none
   |_=>none
  else none
def unW (s:aH):Option aH:=if s=[126]then some []else if s=[]then none else unB s
variable {l:aH}
theorem oN {c:UInt8}(h:cN c=true):unB (c::l)=(unB l).map (c::·):=by
 rw[unB.eq_def];grind
theorem uM {c:UInt8}(h:cN c=false)(h1:c≠37∨l.length<2):unB (c::l)=none:=by
 rw[unB.eq_def];grind
theorem aD4 {x y:UInt8}(h:okH x y=true):unB (37::x::y::l)=(unB l).map (byteH x y::·):=by
 rw[unB.eq_def];simp_all[cN,Bool.false_eq_true,if_false,if_true]
theorem tO {x y:UInt8}(h:okH x y=false):unB (37::x::y::l)=none:=by simp_all[unB.eq_def,cN,Bool.false_eq_true,if_false,if_true]
theorem cE1 {s:aH}{w:aH}(hs:s≠[])(h:unB s=some w):w≠[]:=by
 cases s with
 |nil=>grind
 |cons c l=>
  by_cases hp:cN c=true
  · rw[oN hp,Option.map_eq_some_iff]at h;grind
  ·
   have hp:cN c=false:=by simpa using hp
   rw[unB.eq_def]at h;simp only[hp,Bool.false_eq_true,if_false]at h;split at h
   ·
    split at h
    ·
     split at h
     · rw[Option.map_eq_some_iff]at h;grind
     grind
    grind
   grind
def bV5 :List UInt8:=[48,49,50,51,52,53,54,55,56,57,65,66,67,68,69,70]
set_option maxRecDepth 20000 in
theorem qL (c:UInt8):dW bV5 c=if valH c<16 then(valH c:Int)else-1:=by
 have h: ∀n:Fin 256,dW bV5 (UInt8.ofNat n.1)=if valH (UInt8.ofNat n.1)<16 then(valH (UInt8.ofNat n.1):Int)else-1:=by decide
 have:=h ⟨c.toNat,c.toNat_lt⟩;simp_all
theorem zB {x y:UInt8}(hx:valH x<16)(hy:valH y<16):(byteH x y).toNat=16*valH x+valH y:=by grind[byteH,UInt8.toNat_ofNat']
def UnSt (s:aH)(i:Nat)(out:aH):Prop:=i≤s.length∧unB s=(unB (s.drop i)).map (out++·)∧(out=[]→i=0)∧out.length≤i
section
variable {s:aH}{i:Nat}{out:aH}
theorem UnSt.init (s:aH):UnSt s 0 []:=⟨Nat.zero_le _,by simp,fun _=>rfl,Nat.le_refl _⟩
theorem UnSt.plain (h:UnSt s i out)(hi:i<s.length)(hp:cN s[i]=true):UnSt s (i+1) (out++[s[i]]):=by
 obtain⟨_,h2,_,h4⟩:=h;refine⟨hi,?_,by simp,by grind⟩;rw[h2,List.drop_eq_getElem_cons hi,oN hp,Option.map_map];congr 1;grind
theorem UnSt.bad1 (h:UnSt s i out)(hi:i<s.length)(hp:cN s[i]=false)(h1:s[i]≠37∨s.length≤i+2):unB s=none:=by
 rw[h.2.1,List.drop_eq_getElem_cons hi,uM hp (h1.imp id fun h=>by grind)];rfl
theorem cC0 {s:aH}{i:Nat}(hi:i+2<s.length):s.drop i=s[i]::s[i+1]::s[i+2]::s.drop (i+3):=by
 rw[List.drop_eq_getElem_cons (show i<s.length by omega),List.drop_eq_getElem_cons (show i+1<s.length by omega),List.drop_eq_getElem_cons hi]
theorem UnSt.esc (h:UnSt s i out)(hi:i+2<s.length)(h37:s[i]=37)(hok:okH s[i+1] s[i+2]=true):UnSt s (i+3) (out++[byteH s[i+1] s[i+2]]):=by
 obtain⟨_,h2,_,h4⟩:=h;refine⟨hi,?_,by simp,by simp;omega⟩;rw[h2,cC0 hi,h37,aD4 hok,Option.map_map];congr 1;funext l;simp
theorem UnSt.bad2 (h:UnSt s i out)(hi:i+2<s.length)(h37:s[i]=37)(hok:okH s[i+1] s[i+2]=false):unB s=none:=by
 rw[h.2.1,cC0 hi,h37,tO hok];rfl
theorem nJ (h:unB s=none)(h1:s≠[126]):unW s=none:=by simp_all[unW,if_neg]
theorem UnSt.fin (h:UnSt s i out)(hi:i=s.length)(h1:s≠[126]):unW s=if out=[]then none else some out:=by
 subst hi;obtain⟨_,h2,h3,h4⟩:=h;rw[List.drop_length]at h2;unfold unW;rw[if_neg h1];by_cases ho:out=[]
 · grind
 ·
  have hs:s≠[]:=by
   rintro rfl;simp only[List.length_nil,Nat.le_zero]at h4;exact ho (List.eq_nil_of_length_eq_zero h4)
  simp_all[if_neg,unB]
end
def CutR (l:List UInt8)(c:UInt8)(li re:List UInt8)(fd:Bool):Prop:=
 (fd=false∧dW l c<0∧li=l∧re=[])∨(fd=true∧ ∃i:Nat,dW l c=(i:Int)∧i<l.length∧li=l.take i∧re=l.drop (i+1))
def unL (r:aH):Option (List aH):=(aR 32 r).mapM unW
def unR (r:aH):Option (List aH):=match unL r with|some ws=>if okL ws then some ws else none|none=>none
def gI (b:aH):Option (List (List aH)):=
 if b=[]then some []else if(aR 10 b).getLast (dD 10 b)=[]then(aR 10 b).dropLast.mapM unR else none
variable {li re:aH}
theorem aK0 (hc:CutR l 10 li re true):gI l=(unR li).bind fun ws=>(gI re).map (ws::·):=by
 rcases hc with⟨h,_⟩|⟨_,i,h1,h2,rfl,rfl⟩
 · cases h
 ·
  obtain⟨i',h3,_,hsp⟩:=eL (l:=l) (c:=10) (by omega);have:i'=i:=by omega
  subst this;have hne:l≠[]:=by rintro rfl;simp at h2
  have hd:gI l=if(aR 10 (l.drop (i'+1))).getLast (dD 10 _)=[]then(l.take i'::(aR 10 (l.drop (i'+1))).dropLast).mapM unR else none:=by
   unfold gI;rw[if_neg hne];simp only[hsp];grind[List.getLast_cons,dD,List.dropLast_cons_of_ne_nil]
  rw[hd];have he:gI (l.drop (i'+1))=if(aR 10 (l.drop (i'+1))).getLast (dD 10 _)=[]then(aR 10 (l.drop (i'+1))).dropLast.mapM unR else none:=by
   unfold gI;split
   · rename_i h;rw[h];rfl
   · rfl
  rw[he];split
  ·
   rw[List.mapM_cons];cases unR (l.take i')with
   |none=>rfl
   |some ws=>cases(aR 10 (l.drop (i'+1))).dropLast.mapM unR<;>rfl
  simp_all
theorem vV (hc:CutR l 10 li re false)(hne:l≠[]):gI l=none:=by
 rcases hc with⟨_,h,_⟩|⟨h,_⟩
 all_goals simp_all[gI,if_neg,nI,List.getLast_singleton]
variable {fd:Bool}
theorem bK6 (hc:CutR l 10 li re fd)(hne:l≠[])(h:unR li=none):gI l=none:=by
 cases fd with
 |false=>exact vV hc hne
 |true=>rw[aK0 hc,h];rfl
theorem CutR.lt (hc:CutR l c li re fd)(hne:l≠[]):re.length<l.length∧li.length≤l.length:=by
 have:0<l.length:=List.length_pos_iff.2 hne;rcases hc with⟨_,_,rfl,rfl⟩|⟨_,i,_,h,rfl,rfl⟩
 all_goals grind
def wsT (r:aH)(i:Nat):List aH:=((aR 32 r).take i).map fun p=>(unW p).getD []
def bK7 (r:aH)(i:Nat):Prop:= ∀p∈(aR 32 r).take i,(unW p).isSome=true
variable {i:Nat}{r:aH}
theorem bK8 (h:i<(aR 32 r).length):wsT r (i+1)=wsT r i++[(unW (aR 32 r)[i]).getD []]:=by
 simp only[wsT,List.take_succ_eq_append_getElem h,List.map_append,List.map_cons,List.map_nil]
theorem vW (h:i≤(aR 32 r).length):(wsT r i).length=i:=by grind[wsT,List.length_map,List.length_take]
theorem bD1 (h:i<(aR 32 r).length)(h1:bK7 r i)(h2:(unW (aR 32 r)[i]).isSome=true):bK7 r (i+1):=by
 intro p hp;rw[List.take_succ_eq_append_getElem h,List.mem_append,List.mem_singleton]at hp;rcases hp with hp|rfl
 · exact h1 p hp
 · exact h2
theorem zC {α β:Type}{f:α→Option β}: ∀{l:List α} {x:α},x∈l→f x=none→l.mapM f=none
 |a::l,x,hx,h=>by
  rw[List.mapM_cons];rcases List.mem_cons.1 hx with rfl|hx
  · grind
  · rw[zC hx h];simp_all
theorem aK1 {α β:Type}{f:α→Option β}(d:β): ∀{l:List α},(∀x∈l,(f x).isSome=true)→l.mapM f=some (l.map fun x=>(f x).getD d)
 |[],_=>rfl
 |a::l,h=>by
  rw[List.mapM_cons,aK1 d fun x hx=>h x (List.mem_cons_of_mem _ hx)];grind[Option.isSome_iff_exists,List.mem_cons_self]
theorem bK9 (h:i<(aR 32 r).length)(h2:(unW (aR 32 r)[i]).isSome=false):unR r=none:=by
 unfold unR unL;rw[zC (List.getElem_mem h) (by simpa using h2)]
theorem bV6 (h:bK7 r (aR 32 r).length):unR r=if okL (wsT r (aR 32 r).length)then some (wsT r (aR 32 r).length)else none:=by
 unfold bK7 at h;rw[List.take_length]at h;unfold unR unL;rw[aK1 [] h];simp only[wsT,List.take_length]
def DecSt (b rest:aH)(ls:List (List aH)):Prop:=gI b=(gI rest).map (ls++·)∧rest.length≤b.length∧ls.length+rest.length≤b.length
theorem DecSt.init (b:aH):DecSt b b []:=⟨by simp,Nat.le_refl _,by simp⟩
variable {ls:List (List aH)}{b rest:aH}
theorem DecSt.bad (h:DecSt b rest ls)(hc:CutR rest 10 li re fd)(hne:rest≠[])(hb:unR li=none):gI b=none:=by
 rw[h.1,bK6 hc hne hb];rfl
theorem DecSt.bad0 (h:DecSt b rest ls)(hc:CutR rest 10 li re false)(hne:rest≠[]):gI b=none:=by
 rw[h.1,vV hc hne];rfl
theorem DecSt.next (h:DecSt b rest ls)(hc:CutR rest 10 li re true)(hne:rest≠[]){ws:List aH}(hb:unR li=some ws):DecSt b re (ls++[ws]):=by
 have hl:=hc.lt hne;obtain⟨h1,h2,h3⟩:=h;refine⟨?_,by omega,by grind⟩;rw[h1,aK0 hc,hb];cases gI re with
 |none=>rfl
 |some l=>simp
theorem DecSt.fin (h:DecSt b [] ls):gI b=some ls:=by
 rw[h.1];simp[gI]
def iT (b:aH):Int:=if 262144<b.length then 3 else match gI b with|some ls=>if 1000<ls.length then 2 else 0|none=>2
def fT (b:aH):List (List aH):=if iT b=0 then(gI b).getD []else []
def kH (w:aH):Bool:=!(w==[])&&(!(w==[46])&&!(w==[46,46]))
def kI (s:aH):Bool:=decide (1≤s.length)&&(decide (s.length≤200)&&(!s.contains 0&&(aR 47 s).all kH))
structure Pt where
 k:Nat
 c:UInt8
def Pt.cv (x:Pt):CV:= .agg [.int .i64 x.k,.int .u8 x.c.toNat]
theorem Pt.cells (x:Pt):x.cv.cells=2:=by simp[Pt.cv,CV.cells,CV.cellsL]
theorem Pt.denil (x:Pt):x.cv.denil=x.cv:=by simp only[Pt.cv,CV.denil,CV.denilL]
theorem denilL_Pt (l:List Pt):CV.denilL (l.map Pt.cv)=l.map Pt.cv:=cI Pt.denil l
theorem Pt.isAgg (x:Pt):x.cv.isAgg=true:=rfl
theorem Pt.getAll (x:Pt):CV.getAt 0 2 true x.cv=some x.cv:=by
 have:=Pt.cells x;simp_all[Pt.cv,CV.cells,CV.getAt,and_self,if_true]
theorem Pt.setAll (x:Pt)(y:HV):CV.setAt 0 2 y x.cv=some y:=by
 have:=Pt.cells x;simp_all[Pt.cv,CV.cells,CV.setAt,and_self,if_true]
theorem Pt.fold (k:Nat)(c:UInt8):CV.agg [.int .i64 k,.int .u8 c.toNat]=Pt.cv ⟨k,c⟩:=rfl
theorem Pt.get_k (x:Pt):CV.getAt 0 1 false x.cv=some (.int .i64 x.k):=by simp[Pt.cv,CV.getAt,CV.getAtL,CV.cells,CV.cellsL]
theorem Pt.get_c (x:Pt):CV.getAt 1 1 false x.cv=some (.int .u8 x.c.toNat):=by simp[Pt.cv,CV.getAt,CV.getAtL,CV.cells,CV.cellsL]
def patP :aH→Option (List Pt)
 |[]=>some []
 |c::l=>if c=0 then none
  else if c=92 then match l with
   |[]=>none
   |d::r=>if d=0 then none else(patP r).map (⟨0,d⟩::·)
  else if c=63 then(patP l).map (⟨1,0⟩::·)
  else if c=42 then match l with
   |[]=>some [⟨2,0⟩]
   |d::r=>if d=42 then(patP r).map (⟨3,0⟩::·)else(patP (d::r)).map (⟨2,0⟩::·)
  else(patP l).map (⟨0,c⟩::·)
def eP (p:aH):Option (List Pt):=if p.length<1∨200<p.length then none else patP p
theorem jG : ∀(n:Nat) (l:aH),l.length≤n→0∈l→patP l=none
 |_,[],_,h=>by grind
 |0,_::_,hn,_=>by grind
 |n+1,c::l,hn,h=>by
  have hn':l.length≤n:=by simpa using hn
  rw[patP.eq_def];simp only;split
  · rfl
  ·
   rename_i hc;have hl:0∈l:=by
    rcases List.mem_cons.1 h with h|h
    · grind
    · exact h
   split
   ·
    cases l with
    |nil=>rfl
    |cons d r=>
     simp only;split
     · rfl
     ·
      rename_i hd;have hr:0∈r:=by
       rcases List.mem_cons.1 hl with h|h
       · grind
       · exact h
      rw[jG n r (by grind) hr];rfl
   ·
    split
    · rw[jG n l hn' hl];rfl
    ·
     split
     ·
      cases l with
      |nil=>grind
      |cons d r=>
       simp only;split
       ·
        rename_i hd;have hr:0∈r:=by
         rcases List.mem_cons.1 hl with h|h
         · grind
         · exact h
        rw[jG n r (by grind) hr];rfl
       · rw[jG n (d::r) hn' hl];rfl
     · rw[jG n l hn' hl];rfl
theorem aX4 : ∀(n:Nat) (l:aH) (ps:List Pt),l.length≤n→patP l=some ps→ps.length≤l.length∧ ∀x∈ps,x.k≤3
 |_,[],ps,_,h=>by grind[patP.eq_def]
 |0,_::_,_,hn,_=>by grind
 |n+1,c::l,ps,hn,h=>by
  have hn':l.length≤n:=by simpa using hn
  have key: ∀(r:aH) (x:Pt),r.length≤l.length→x.k≤3→(patP r).map (x::·)=some ps→ps.length≤(c::l).length∧ ∀x∈ps,x.k≤3:=by
   intro r x hr hx h;cases hp:patP r with
   |none=>grind
   |some q=>
    rw[hp]at h;cases h;obtain⟨g1,g2⟩:=aX4 n r q (by omega) hp;grind
  rw[patP.eq_def]at h;simp only at h;split at h
  · cases h
  ·
   split at h
   · grind
   ·
    split at h
    · grind
    ·
     split at h
     · grind
     grind
def PatSt (p:aH)(i:Nat)(out:List Pt):Prop:=i≤p.length∧patP p=(patP (p.drop i)).map (out++·)∧out.length≤i∧ ∀x∈out,x.k≤3
theorem PatSt.init (p:aH):PatSt p 0 []:=⟨by omega,by simp,by simp,by simp⟩
section
variable {p:aH}{i:Nat}{out:List Pt}
theorem PatSt.fin (h:PatSt p i out)(hi:i=p.length):patP p=some out:=by
 rw[h.2.1,hi,List.drop_length,patP.eq_def];simp
theorem PatSt.step (h:PatSt p i out){k:Nat}{x:Pt}(hk:i+k≤p.length)(h0:1≤k)(hx:x.k≤3)(he:patP (p.drop i)=(patP (p.drop (i+k))).map (x::·)):PatSt p (i+k) (out++[x]):=by
 refine⟨hk,?_,by have:=h.2.2.1;grind,fun y hy=>?_⟩
 · rw[h.2.1,he,Option.map_map];congr 1;grind
 ·
  rcases List.mem_append.1 hy with hy|hy
  · exact h.2.2.2 y hy
  grind
theorem PatSt.bad (h:PatSt p i out)(he:patP (p.drop i)=none):patP p=none:=by rw[h.2.1,he];rfl
theorem bL0 {p:aH}{i:Nat}(h:i+1<p.length):p.drop i=p[i]::p[i+1]::p.drop (i+2):=by
 rw[List.drop_eq_getElem_cons (by omega),List.drop_eq_getElem_cons h]
theorem aK2 (hi:i+1<p.length)(h1:p[i]=92)(h2:p[i+1]≠0):patP (p.drop i)=(patP (p.drop (i+2))).map (⟨0,p[i+1]⟩::·):=by
 rw[bL0 hi,patP.eq_def];simp only;rw[if_neg (by rw[h1];decide),if_pos h1,if_neg h2]
theorem bD2 (hi:i+1<p.length)(h1:p[i]=92)(h2:p[i+1]=0):patP (p.drop i)=none:=by
 rw[bL0 hi,patP.eq_def];simp only;rw[if_neg (by rw[h1];decide),if_pos h1,if_pos h2]
theorem zD (hi:i<p.length)(h1:p[i]=92)(he:i+1=p.length):patP (p.drop i)=none:=by simp_all[List.drop_eq_getElem_cons,List.drop_eq_nil_of_le,patP.eq_def,if_neg,if_pos]
theorem bL1 (hi:i<p.length)(h1:p[i]=63):patP (p.drop i)=(patP (p.drop (i+1))).map (⟨1,0⟩::·):=by
 rw[List.drop_eq_getElem_cons hi,patP.eq_def];grind
theorem aX5 (hi:i+1<p.length)(h1:p[i]=42)(h2:p[i+1]=42):patP (p.drop i)=(patP (p.drop (i+2))).map (⟨3,0⟩::·):=by
 rw[bL0 hi,patP.eq_def];simp only;rw[if_neg (by rw[h1];decide),if_neg (by rw[h1];decide),if_neg (by rw[h1];decide),if_pos h1,if_pos h2]
theorem aD5 (hi:i<p.length)(h1:p[i]=42)(h2: ∀h:i+1<p.length,p[i+1]≠42):patP (p.drop i)=(patP (p.drop (i+1))).map (⟨2,0⟩::·):=by
 rw[List.drop_eq_getElem_cons hi,patP.eq_def];simp only;rw[if_neg (by rw[h1];decide),if_neg (by rw[h1];decide),if_neg (by rw[h1];decide),if_pos h1];rcases Nat.lt_or_ge (i+1) p.length with h|h
 · rw[List.drop_eq_getElem_cons h];simp only;rw[if_neg (h2 h)]
 · rw[List.drop_eq_nil_of_le h];simp only;rw[patP.eq_def];rfl
theorem aK3 (hi:i<p.length)(h1:p[i]=0):patP (p.drop i)=none:=by simp_all[List.drop_eq_getElem_cons,patP.eq_def,if_pos]
theorem bL2 (hi:i<p.length)(h0:p[i]≠0)(h1:p[i]≠92)(h2:p[i]≠63)(h3:p[i]≠42):patP (p.drop i)=(patP (p.drop (i+1))).map (⟨0,p[i]⟩::·):=by
 rw[List.drop_eq_getElem_cons hi,patP.eq_def];grind
end
def Pt.long (x:Pt):Bool:=decide (2≤x.k)
def Pt.takes (x:Pt)(c:UInt8):Bool:=if x.k=0 then c==x.c else if x.k=3 then true else !(c==47)
def mD (ps:List Pt)(s:aH):Nat→Nat→Bool
 |0,0=>true
 |0,_+1=>false
 |k+1,0=>(ps.getD k ⟨0,0⟩).long&&mD ps s k 0
 |k+1,i+1=>if(ps.getD k ⟨0,0⟩).long then mD ps s k (i+1)||(mD ps s (k+1) i&&(ps.getD k ⟨0,0⟩).takes (s.getD i 0))
  else mD ps s k i&&(ps.getD k ⟨0,0⟩).takes (s.getD i 0)
termination_by k i=>k+i
def lU (p s:aH):Bool:=match eP p with|some ps=>kI s&&mD ps s ps.length s.length|none=>false
end Go.Pl
namespace Go.Hl
open Go
section
variable {P:Program}{av:List Nat}{f:FuncId}{ob:Ob}{nid id n:Nat}{K:HV→Ob→Prop}{T e:TypeId}{sz:Nat}{v:CV}{l:List CV}
end
def gT (P:Program)(f:FuncId)(args:List CV)(R:CV→CV→Prop):Prop:=
 HFn P f (args.map .c) 0 cQ (fun r ob'=> ∃u v,r= .tup [.c u,.c v]∧R u v∧ob'=cQ)
variable {R:CV→CV→Prop}{ob:Ob}
theorem aX {r:HV}(cl:List Nat)(u v:CV)(h:(r.close ob cl).norm= .tup [.c u,.c v])(hR:R u v):mK 0 r ob (fun r ob'=> ∃u v,r= .tup [.c u,.c v]∧R u v∧ob'=cQ):=
 ⟨cl,id,.tup [.c u,.c v],cQ,⟨u,v,rfl,hR,rfl⟩,by rw[h];rfl,fun _ h=>by omega,fun _ _ _ _ h=>h,by simp[HV.men,HV.menL],fun j o h=>by simp[cQ]at h⟩
theorem vX {P:Program}{av:List Nat}{f:FuncId}{nid:Nat}{K:HV→Ob→Prop}{args:List CV}(h:gT P f args R)(hfree:Free4 ob nid)(hK: ∀u v,R u v→K (.tup [.c u,.c v]) ob):
  HCall P av f (args.map .c) ob nid K:=by
 refine⟨[],args.map .c,cQ,_,h,jF args,⟨List.nodup_nil,by simp⟩,(HV.renL_c _ _).symm,fun j o h=>by simp[cQ]at h,fun r lob' hR _=>?_⟩;obtain⟨u,v,rfl,hv,rfl⟩:=hR;rw[kF hfree.all];exact hK u v hv
end Go.Hl
