/- HL: rows that a function makes and hands back as the caller's own; rows that are lent. By an AI agent. -/
import Derived.Test.YtlldglbooaefhaaGreatDoorChecked
import Derived.Test.YtlldglbooaefhaaGreatDoorPl11
import Derived.Test.YtlldglbooaefhaaGreatDoorHlK
import Derived.Laws.Externs
import Derived.Lib.BytesEntry
set_option linter.unusedSimpArgs false
set_option linter.unusedVariables false
set_option linter.defProp false
namespace Go.Proofs
namespace YtlldglbooaefhaaGreatDoor
open Go Go.Hl Go.Pl
theorem ty1 :aR Tryz.prog 1=some ⟨1,8,.func,.nilf⟩:=by kernel_rfl
theorem ty2 :aR Tryz.prog 2=some ⟨1,8,.int .i64,.int .i64 0⟩:=by kernel_rfl
theorem ty3 :aR Tryz.prog 3=some ⟨1,8,.int .i64,.int .i64 0⟩:=by kernel_rfl
theorem ty4 :aR Tryz.prog 4=some ⟨1,1,.bool,.bool false⟩:=by kernel_rfl
theorem ty5 :aR Tryz.prog 5=some ⟨1,1,.int .u8,.int .u8 0⟩:=by kernel_rfl
theorem ty6 :aR Tryz.prog 6=some ⟨1,1,.int .u8,.int .u8 0⟩:=by kernel_rfl
theorem ty7 :aR Tryz.prog 7=some ⟨4,24,.struct [(0,2),(1,3),(2,4),(3,6)],.agg [.int .i64 0,.int .i64 0,.bool false,.int .u8 0]⟩:=by kernel_rfl
theorem ty8 :aR Tryz.prog 8=some ⟨4,24,.struct [(0,2),(1,3),(2,4),(3,6)],.agg [.int .i64 0,.int .i64 0,.bool false,.int .u8 0]⟩:=by kernel_rfl
theorem ty9 :aR Tryz.prog 9=some ⟨1,16,.string,.str []⟩:=by kernel_rfl
theorem ty10 :aR Tryz.prog 10=some ⟨1,16,.string,.str []⟩:=by kernel_rfl
theorem ty11 :aR Tryz.prog 11=some ⟨1,16,.string,.str []⟩:=by kernel_rfl
theorem ty12 :aR Tryz.prog 12=some ⟨1,8,.int .u64,.int .u64 0⟩:=by kernel_rfl
theorem ty13 :aR Tryz.prog 13=some ⟨2,24,.struct [(0,9),(1,12)],.agg [.str [],.int .u64 0]⟩:=by kernel_rfl
theorem ty14 :aR Tryz.prog 14=some ⟨2,24,.struct [(0,9),(1,12)],.agg [.str [],.int .u64 0]⟩:=by kernel_rfl
theorem ty15 :aR Tryz.prog 15=some ⟨1,8,.pointer 188,.nilp⟩:=by kernel_rfl
theorem ty16 :aR Tryz.prog 16=some ⟨1,8,.pointer 191,.nilp⟩:=by kernel_rfl
theorem ty17 :aR Tryz.prog 17=some ⟨1,8,.pointer 200,.nilp⟩:=by kernel_rfl
theorem ty18 :aR Tryz.prog 18=some ⟨1,8,.struct [(0,17)],.agg [.nilp]⟩:=by kernel_rfl
theorem ty19 :aR Tryz.prog 19=some ⟨1,8,.struct [(0,17)],.agg [.nilp]⟩:=by kernel_rfl
theorem ty20 :aR Tryz.prog 20=some ⟨1,16,.iface true,.nili⟩:=by kernel_rfl
theorem ty21 :aR Tryz.prog 21=some ⟨1,4,.int .i32,.int .i32 0⟩:=by kernel_rfl
theorem ty22 :aR Tryz.prog 22=some ⟨1,24,.slice 40,.nils⟩:=by kernel_rfl
theorem ty23 :aR Tryz.prog 23=some ⟨1,24,.slice 3,.nils⟩:=by kernel_rfl
theorem ty24 :aR Tryz.prog 24=some ⟨1,24,.slice 4,.nils⟩:=by kernel_rfl
theorem ty25 :aR Tryz.prog 25=some ⟨1,8,.func,.nilf⟩:=by kernel_rfl
theorem ty26 :aR Tryz.prog 26=some ⟨1,8,.func,.nilf⟩:=by kernel_rfl
theorem ty27 :aR Tryz.prog 27=some ⟨1,8,.func,.nilf⟩:=by kernel_rfl
theorem ty28 :aR Tryz.prog 28=some ⟨1,8,.func,.nilf⟩:=by kernel_rfl
theorem ty29 :aR Tryz.prog 29=some ⟨1,8,.func,.nilf⟩:=by kernel_rfl
theorem ty30 :aR Tryz.prog 30=some ⟨1,8,.func,.nilf⟩:=by kernel_rfl
theorem ty31 :aR Tryz.prog 31=some ⟨1,8,.func,.nilf⟩:=by kernel_rfl
theorem ty32 :aR Tryz.prog 32=some ⟨1,8,.func,.nilf⟩:=by kernel_rfl
theorem ty33 :aR Tryz.prog 33=some ⟨1,8,.func,.nilf⟩:=by kernel_rfl
theorem ty34 :aR Tryz.prog 34=some ⟨1,8,.pointer 83,.nilp⟩:=by kernel_rfl
theorem ty35 :aR Tryz.prog 35=some ⟨1,8,.func,.nilf⟩:=by kernel_rfl
theorem ty36 :aR Tryz.prog 36=some ⟨1,8,.func,.nilf⟩:=by kernel_rfl
theorem ty37 :aR Tryz.prog 37=some ⟨4,40,.struct [(0,3),(1,2),(2,2),(3,9)],.agg [.int .i64 0,.int .i64 0,.int .i64 0,.str []]⟩:=by kernel_rfl
theorem ty38 :aR Tryz.prog 38=some ⟨4,40,.struct [(0,3),(1,2),(2,2),(3,9)],.agg [.int .i64 0,.int .i64 0,.int .i64 0,.str []]⟩:=by kernel_rfl
theorem ty39 :aR Tryz.prog 39=some ⟨7,64,.struct [(0,3),(1,3),(2,3),(3,38)],.agg [.int .i64 0,.int .i64 0,.int .i64 0,.agg [.int .i64 0,.int .i64 0,.int .i64 0,.str []]]⟩:=by kernel_rfl
theorem ty40 :aR Tryz.prog 40=some ⟨7,64,.struct [(0,3),(1,3),(2,3),(3,38)],.agg [.int .i64 0,.int .i64 0,.int .i64 0,.agg [.int .i64 0,.int .i64 0,.int .i64 0,.str []]]⟩:=by kernel_rfl
theorem ty41 :aR Tryz.prog 41=some ⟨1,8,.int .u64,.int .u64 0⟩:=by kernel_rfl
theorem ty42 :aR Tryz.prog 42=some ⟨1,8,.func,.nilf⟩:=by kernel_rfl
theorem ty43 :aR Tryz.prog 43=some ⟨1,24,.slice 54,.nils⟩:=by kernel_rfl
theorem ty44 :aR Tryz.prog 44=some ⟨3,48,.struct [(0,9),(1,2),(2,43)],.agg [.str [],.int .i64 0,.nils]⟩:=by kernel_rfl
theorem ty45 :aR Tryz.prog 45=some ⟨3,48,.struct [(0,9),(1,2),(2,43)],.agg [.str [],.int .i64 0,.nils]⟩:=by kernel_rfl
theorem ty46 :aR Tryz.prog 46=some ⟨1,8,.func,.nilf⟩:=by kernel_rfl
theorem ty47 :aR Tryz.prog 47=some ⟨1,24,.slice 5,.nils⟩:=by kernel_rfl
theorem ty48 :aR Tryz.prog 48=some ⟨1,8,.int .i64,.int .i64 0⟩:=by kernel_rfl
theorem ty50 :aR Tryz.prog 50=some ⟨1,8,.func,.nilf⟩:=by kernel_rfl
theorem ty51 :aR Tryz.prog 51=some ⟨1,8,.func,.nilf⟩:=by kernel_rfl
theorem ty52 :aR Tryz.prog 52=some ⟨1,8,.pointer 54,.nilp⟩:=by kernel_rfl
theorem ty53 :aR Tryz.prog 53=some ⟨5,80,.struct [(0,9),(1,9),(2,9),(3,2),(4,22)],.agg [.str [],.str [],.str [],.int .i64 0,.nils]⟩:=by kernel_rfl
theorem ty54 :aR Tryz.prog 54=some ⟨5,80,.struct [(0,9),(1,9),(2,9),(3,2),(4,22)],.agg [.str [],.str [],.str [],.int .i64 0,.nils]⟩:=by kernel_rfl
theorem ty55 :aR Tryz.prog 55=some ⟨1,8,.func,.nilf⟩:=by kernel_rfl
theorem ty57 :aR Tryz.prog 57=some ⟨1,8,.func,.nilf⟩:=by kernel_rfl
theorem ty58 :aR Tryz.prog 58=some ⟨1,8,.func,.nilf⟩:=by kernel_rfl
theorem ty59 :aR Tryz.prog 59=some ⟨1,8,.func,.nilf⟩:=by kernel_rfl
theorem ty60 :aR Tryz.prog 60=some ⟨1,24,.slice 9,.nils⟩:=by kernel_rfl
theorem ty61 :aR Tryz.prog 61=some ⟨1,8,.func,.nilf⟩:=by kernel_rfl
theorem ty62 :aR Tryz.prog 62=some ⟨1,24,.slice 60,.nils⟩:=by kernel_rfl
theorem ty63 :aR Tryz.prog 63=some ⟨1,8,.func,.nilf⟩:=by kernel_rfl
theorem ty64 :aR Tryz.prog 64=some ⟨1,8,.func,.nilf⟩:=by kernel_rfl
theorem ty65 :aR Tryz.prog 65=some ⟨1,8,.func,.nilf⟩:=by kernel_rfl
theorem ty67 :aR Tryz.prog 67=some ⟨1,8,.func,.nilf⟩:=by kernel_rfl
theorem ty68 :aR Tryz.prog 68=some ⟨1,8,.func,.nilf⟩:=by kernel_rfl
theorem ty69 :aR Tryz.prog 69=some ⟨1,8,.func,.nilf⟩:=by kernel_rfl
theorem ty70 :aR Tryz.prog 70=some ⟨1,8,.func,.nilf⟩:=by kernel_rfl
theorem ty71 :aR Tryz.prog 71=some ⟨1,8,.func,.nilf⟩:=by kernel_rfl
theorem ty72 :aR Tryz.prog 72=some ⟨1,8,.func,.nilf⟩:=by kernel_rfl
theorem ty73 :aR Tryz.prog 73=some ⟨1,8,.func,.nilf⟩:=by kernel_rfl
theorem ty74 :aR Tryz.prog 74=some ⟨1,8,.func,.nilf⟩:=by kernel_rfl
theorem ty75 :aR Tryz.prog 75=some ⟨1,8,.func,.nilf⟩:=by kernel_rfl
theorem ty76 :aR Tryz.prog 76=some ⟨1,8,.func,.nilf⟩:=by kernel_rfl
theorem ty77 :aR Tryz.prog 77=some ⟨1,8,.func,.nilf⟩:=by kernel_rfl
theorem ty78 :aR Tryz.prog 78=some ⟨1,8,.func,.nilf⟩:=by kernel_rfl
theorem ty79 :aR Tryz.prog 79=some ⟨1,8,.func,.nilf⟩:=by kernel_rfl
theorem ty80 :aR Tryz.prog 80=some ⟨1,8,.func,.nilf⟩:=by kernel_rfl
theorem ty81 :aR Tryz.prog 81=some ⟨1,8,.func,.nilf⟩:=by kernel_rfl
theorem ty82 :aR Tryz.prog 82=some ⟨2,32,.struct [(0,23),(1,3)],.agg [.nils,.int .i64 0]⟩:=by kernel_rfl
theorem ty83 :aR Tryz.prog 83=some ⟨2,32,.struct [(0,23),(1,3)],.agg [.nils,.int .i64 0]⟩:=by kernel_rfl
theorem ty84 :aR Tryz.prog 84=some ⟨1,8,.func,.nilf⟩:=by kernel_rfl
theorem ty86 :aR Tryz.prog 86=some ⟨1,8,.func,.nilf⟩:=by kernel_rfl
theorem ty87 :aR Tryz.prog 87=some ⟨1,8,.func,.nilf⟩:=by kernel_rfl
theorem ty88 :aR Tryz.prog 88=some ⟨1,8,.func,.nilf⟩:=by kernel_rfl
theorem ty89 :aR Tryz.prog 89=some ⟨1,8,.func,.nilf⟩:=by kernel_rfl
theorem ty90 :aR Tryz.prog 90=some ⟨1,8,.map 9 4,.nilm⟩:=by kernel_rfl
theorem ty91 :aR Tryz.prog 91=some ⟨1,8,.func,.nilf⟩:=by kernel_rfl
theorem ty92 :aR Tryz.prog 92=some ⟨1,8,.pointer 94,.nilp⟩:=by kernel_rfl
theorem ty93 :aR Tryz.prog 93=some ⟨2,32,.struct [(0,62),(1,3)],.agg [.nils,.int .i64 0]⟩:=by kernel_rfl
theorem ty94 :aR Tryz.prog 94=some ⟨2,32,.struct [(0,62),(1,3)],.agg [.nils,.int .i64 0]⟩:=by kernel_rfl
theorem ty96 :aR Tryz.prog 96=some ⟨1,8,.func,.nilf⟩:=by kernel_rfl
theorem ty97 :aR Tryz.prog 97=some ⟨1,8,.func,.nilf⟩:=by kernel_rfl
theorem ty98 :aR Tryz.prog 98=some ⟨1,8,.pointer 100,.nilp⟩:=by kernel_rfl
theorem ty99 :aR Tryz.prog 99=some ⟨5,80,.struct [(0,45),(3,23),(4,4)],.agg [.agg [.str [],.int .i64 0,.nils],.nils,.bool false]⟩:=by kernel_rfl
theorem ty100 :aR Tryz.prog 100=some ⟨5,80,.struct [(0,45),(3,23),(4,4)],.agg [.agg [.str [],.int .i64 0,.nils],.nils,.bool false]⟩:=by kernel_rfl
theorem ty101 :aR Tryz.prog 101=some ⟨1,8,.func,.nilf⟩:=by kernel_rfl
theorem ty102 :aR Tryz.prog 102=some ⟨1,8,.func,.nilf⟩:=by kernel_rfl
theorem ty103 :aR Tryz.prog 103=some ⟨1,8,.func,.nilf⟩:=by kernel_rfl
theorem ty104 :aR Tryz.prog 104=some ⟨1,8,.func,.nilf⟩:=by kernel_rfl
theorem ty106 :aR Tryz.prog 106=some ⟨1,8,.func,.nilf⟩:=by kernel_rfl
theorem ty107 :aR Tryz.prog 107=some ⟨1,8,.func,.nilf⟩:=by kernel_rfl
theorem ty108 :aR Tryz.prog 108=some ⟨1,8,.func,.nilf⟩:=by kernel_rfl
theorem ty109 :aR Tryz.prog 109=some ⟨1,8,.func,.nilf⟩:=by kernel_rfl
theorem ty110 :aR Tryz.prog 110=some ⟨1,8,.func,.nilf⟩:=by kernel_rfl
theorem ty111 :aR Tryz.prog 111=some ⟨1,8,.func,.nilf⟩:=by kernel_rfl
theorem ty112 :aR Tryz.prog 112=some ⟨1,8,.func,.nilf⟩:=by kernel_rfl
theorem ty113 :aR Tryz.prog 113=some ⟨1,8,.func,.nilf⟩:=by kernel_rfl
theorem ty114 :aR Tryz.prog 114=some ⟨1,8,.func,.nilf⟩:=by kernel_rfl
theorem ty115 :aR Tryz.prog 115=some ⟨1,8,.func,.nilf⟩:=by kernel_rfl
theorem ty116 :aR Tryz.prog 116=some ⟨1,8,.int .u64,.int .u64 0⟩:=by kernel_rfl
theorem ty117 :aR Tryz.prog 117=some ⟨1,24,.slice 140,.nils⟩:=by kernel_rfl
theorem ty119 :aR Tryz.prog 119=some ⟨1,8,.func,.nilf⟩:=by kernel_rfl
theorem ty120 :aR Tryz.prog 120=some ⟨1,24,.slice 143,.nils⟩:=by kernel_rfl
theorem ty122 :aR Tryz.prog 122=some ⟨1,8,.func,.nilf⟩:=by kernel_rfl
theorem ty124 :aR Tryz.prog 124=some ⟨1,8,.func,.nilf⟩:=by kernel_rfl
theorem ty125 :aR Tryz.prog 125=some ⟨1,8,.func,.nilf⟩:=by kernel_rfl
theorem ty126 :aR Tryz.prog 126=some ⟨1,8,.func,.nilf⟩:=by kernel_rfl
theorem ty127 :aR Tryz.prog 127=some ⟨1,8,.func,.nilf⟩:=by kernel_rfl
theorem ty128 :aR Tryz.prog 128=some ⟨1,8,.func,.nilf⟩:=by kernel_rfl
theorem ty130 :aR Tryz.prog 130=some ⟨1,8,.func,.nilf⟩:=by kernel_rfl
theorem ty132 :aR Tryz.prog 132=some ⟨1,8,.func,.nilf⟩:=by kernel_rfl
theorem ty133 :aR Tryz.prog 133=some ⟨1,8,.func,.nilf⟩:=by kernel_rfl
theorem ty135 :aR Tryz.prog 135=some ⟨1,8,.func,.nilf⟩:=by kernel_rfl
theorem ty136 :aR Tryz.prog 136=some ⟨1,8,.func,.nilf⟩:=by kernel_rfl
theorem ty137 :aR Tryz.prog 137=some ⟨1,8,.func,.nilf⟩:=by kernel_rfl
theorem ty138 :aR Tryz.prog 138=some ⟨1,8,.func,.nilf⟩:=by kernel_rfl
theorem ty139 :aR Tryz.prog 139=some ⟨2,16,.struct [(0,3),(1,5)],.agg [.int .i64 0,.int .u8 0]⟩:=by kernel_rfl
theorem ty140 :aR Tryz.prog 140=some ⟨2,16,.struct [(0,3),(1,5)],.agg [.int .i64 0,.int .u8 0]⟩:=by kernel_rfl
theorem ty141 :aR Tryz.prog 141=some ⟨1,8,.func,.nilf⟩:=by kernel_rfl
theorem ty142 :aR Tryz.prog 142=some ⟨2,16,.struct [(0,3),(1,5)],.agg [.int .i64 0,.int .u8 0]⟩:=by kernel_rfl
theorem ty143 :aR Tryz.prog 143=some ⟨2,16,.struct [(0,3),(1,5)],.agg [.int .i64 0,.int .u8 0]⟩:=by kernel_rfl
theorem ty144 :aR Tryz.prog 144=some ⟨1,8,.func,.nilf⟩:=by kernel_rfl
theorem ty145 :aR Tryz.prog 145=some ⟨1,8,.func,.nilf⟩:=by kernel_rfl
theorem ty146 :aR Tryz.prog 146=some ⟨1,8,.func,.nilf⟩:=by kernel_rfl
theorem ty147 :aR Tryz.prog 147=some ⟨1,8,.func,.nilf⟩:=by kernel_rfl
theorem ty149 :aR Tryz.prog 149=some ⟨1,8,.func,.nilf⟩:=by kernel_rfl
theorem ty150 :aR Tryz.prog 150=some ⟨1,8,.func,.nilf⟩:=by kernel_rfl
theorem ty151 :aR Tryz.prog 151=some ⟨1,8,.func,.nilf⟩:=by kernel_rfl
theorem ty153 :aR Tryz.prog 153=some ⟨1,8,.func,.nilf⟩:=by kernel_rfl
theorem ty154 :aR Tryz.prog 154=some ⟨1,8,.func,.nilf⟩:=by kernel_rfl
theorem ty155 :aR Tryz.prog 155=some ⟨24,24,.array 24 5,.agg [.int .u8 0,.int .u8 0,.int .u8 0,.int .u8 0,.int .u8 0,.int .u8 0,.int .u8 0,.int .u8 0,.int .u8 0,.int .u8 0,.int .u8 0,.int .u8 0,.int .u8 0,.int .u8 0,.int .u8 0,.int .u8 0,.int .u8 0,.int .u8 0,.int .u8 0,.int .u8 0,.int .u8 0,.int .u8 0,.int .u8 0,.int .u8 0]⟩:=by kernel_rfl
theorem ty156 :aR Tryz.prog 156=some ⟨1,8,.func,.nilf⟩:=by kernel_rfl
theorem ty157 :aR Tryz.prog 157=some ⟨1,8,.func,.nilf⟩:=by kernel_rfl
theorem ty159 :aR Tryz.prog 159=some ⟨1,8,.func,.nilf⟩:=by kernel_rfl
theorem ty160 :aR Tryz.prog 160=some ⟨1,8,.func,.nilf⟩:=by kernel_rfl
theorem ty162 :aR Tryz.prog 162=some ⟨1,8,.func,.nilf⟩:=by kernel_rfl
theorem ty164 :aR Tryz.prog 164=some ⟨1,8,.func,.nilf⟩:=by kernel_rfl
theorem ty165 :aR Tryz.prog 165=some ⟨1,8,.func,.nilf⟩:=by kernel_rfl
theorem ty166 :aR Tryz.prog 166=some ⟨1,8,.func,.nilf⟩:=by kernel_rfl
theorem ty167 :aR Tryz.prog 167=some ⟨1,8,.func,.nilf⟩:=by kernel_rfl
theorem ty168 :aR Tryz.prog 168=some ⟨1,8,.func,.nilf⟩:=by kernel_rfl
theorem ty169 :aR Tryz.prog 169=some ⟨20,160,.array 20 116,.agg [.int .u64 0,.int .u64 0,.int .u64 0,.int .u64 0,.int .u64 0,.int .u64 0,.int .u64 0,.int .u64 0,.int .u64 0,.int .u64 0,.int .u64 0,.int .u64 0,.int .u64 0,.int .u64 0,.int .u64 0,.int .u64 0,.int .u64 0,.int .u64 0,.int .u64 0,.int .u64 0]⟩:=by kernel_rfl
theorem ty170 :aR Tryz.prog 170=some ⟨1,4,.int .u32,.int .u32 0⟩:=by kernel_rfl
theorem ty171 :aR Tryz.prog 171=some ⟨65,65,.array 65 5,.agg [.int .u8 0,.int .u8 0,.int .u8 0,.int .u8 0,.int .u8 0,.int .u8 0,.int .u8 0,.int .u8 0,.int .u8 0,.int .u8 0,.int .u8 0,.int .u8 0,.int .u8 0,.int .u8 0,.int .u8 0,.int .u8 0,.int .u8 0,.int .u8 0,.int .u8 0,.int .u8 0,.int .u8 0,.int .u8 0,.int .u8 0,.int .u8 0,.int .u8 0,.int .u8 0,.int .u8 0,.int .u8 0,.int .u8 0,.int .u8 0,.int .u8 0,.int .u8 0,.int .u8 0,.int .u8 0,.int .u8 0,.int .u8 0,.int .u8 0,.int .u8 0,.int .u8 0,.int .u8 0,.int .u8 0,.int .u8 0,.int .u8 0,.int .u8 0,.int .u8 0,.int .u8 0,.int .u8 0,.int .u8 0,.int .u8 0,.int .u8 0,.int .u8 0,.int .u8 0,.int .u8 0,.int .u8 0,.int .u8 0,.int .u8 0,.int .u8 0,.int .u8 0,.int .u8 0,.int .u8 0,.int .u8 0,.int .u8 0,.int .u8 0,.int .u8 0,.int .u8 0]⟩:=by kernel_rfl
theorem ty172 :aR Tryz.prog 172=some ⟨1,8,.func,.nilf⟩:=by kernel_rfl
theorem ty173 :aR Tryz.prog 173=some ⟨1,8,.func,.nilf⟩:=by kernel_rfl
theorem ty175 :aR Tryz.prog 175=some ⟨1,8,.func,.nilf⟩:=by kernel_rfl
theorem ty176 :aR Tryz.prog 176=some ⟨1,8,.pointer 2,.nilp⟩:=by kernel_rfl
theorem ty177 :aR Tryz.prog 177=some ⟨1,24,.slice 176,.nils⟩:=by kernel_rfl
theorem ty178 :aR Tryz.prog 178=some ⟨1,8,.func,.nilf⟩:=by kernel_rfl
theorem ty180 :aR Tryz.prog 180=some ⟨2,2,.struct [(0,5),(1,5)],.agg [.int .u8 0,.int .u8 0]⟩:=by kernel_rfl
theorem ty181 :aR Tryz.prog 181=some ⟨2,2,.struct [(0,5),(1,5)],.agg [.int .u8 0,.int .u8 0]⟩:=by kernel_rfl
theorem ty182 :aR Tryz.prog 182=some ⟨32,32,.array 16 181,.agg [.agg [.int .u8 0,.int .u8 0],.agg [.int .u8 0,.int .u8 0],.agg [.int .u8 0,.int .u8 0],.agg [.int .u8 0,.int .u8 0],.agg [.int .u8 0,.int .u8 0],.agg [.int .u8 0,.int .u8 0],.agg [.int .u8 0,.int .u8 0],.agg [.int .u8 0,.int .u8 0],.agg [.int .u8 0,.int .u8 0],.agg [.int .u8 0,.int .u8 0],.agg [.int .u8 0,.int .u8 0],.agg [.int .u8 0,.int .u8 0],.agg [.int .u8 0,.int .u8 0],.agg [.int .u8 0,.int .u8 0],.agg [.int .u8 0,.int .u8 0],.agg [.int .u8 0,.int .u8 0]]⟩:=by kernel_rfl
theorem ty183 :aR Tryz.prog 183=some ⟨1,8,.func,.nilf⟩:=by kernel_rfl
theorem ty184 :aR Tryz.prog 184=some ⟨32,32,.array 32 5,zd⟩:=by kernel_rfl
theorem ty185 :aR Tryz.prog 185=some ⟨64,64,.array 64 5,us (uz 64)⟩:=by kernel_rfl
theorem ty186 :aR Tryz.prog 186=some ⟨1,8,.func,.nilf⟩:=by kernel_rfl
theorem ty187 :aR Tryz.prog 187=some ⟨4,40,.struct [(0,17),(1,17),(2,17),(3,9)],.agg [.nilp,.nilp,.nilp,.str []]⟩:=by kernel_rfl
theorem ty188 :aR Tryz.prog 188=some ⟨4,40,.struct [(0,17),(1,17),(2,17),(3,9)],.agg [.nilp,.nilp,.nilp,.str []]⟩:=by kernel_rfl
theorem ty192 :aR Tryz.prog 192=some ⟨1,8,.func,.nilf⟩:=by kernel_rfl
theorem ty193 :aR Tryz.prog 193=some ⟨1,1,.int .u8,.int .u8 0⟩:=by kernel_rfl
theorem ty194 :aR Tryz.prog 194=some ⟨1,1,.int .u8,.int .u8 0⟩:=by kernel_rfl
theorem ty195 :aR Tryz.prog 195=some ⟨1,8,.func,.nilf⟩:=by kernel_rfl
theorem ty196 :aR Tryz.prog 196=some ⟨1,8,.pointer 5,.nilp⟩:=by kernel_rfl
theorem ty197 :aR Tryz.prog 197=some ⟨1,4,.int .i32,.int .i32 0⟩:=by kernel_rfl
theorem ty198 :aR Tryz.prog 198=some ⟨1,4,.int .i32,.int .i32 0⟩:=by kernel_rfl
theorem ty199 :aR Tryz.prog 199=some ⟨11,48,.struct [(0,12),(1,12),(2,170),(3,193),(4,5),(5,5),(6,194),(7,195),(8,196),(9,197),(10,198)],.agg [.int .u64 0,.int .u64 0,.int .u32 0,.int .u8 0,.int .u8 0,.int .u8 0,.int .u8 0,.nilf,.nilp,.int .i32 0,.int .i32 0]⟩:=by kernel_rfl
theorem ty200 :aR Tryz.prog 200=some ⟨11,48,.struct [(0,12),(1,12),(2,170),(3,193),(4,5),(5,5),(6,194),(7,195),(8,196),(9,197),(10,198)],.agg [.int .u64 0,.int .u64 0,.int .u32 0,.int .u8 0,.int .u8 0,.int .u8 0,.int .u8 0,.nilf,.nilp,.int .i32 0,.int .i32 0]⟩:=by kernel_rfl
theorem eqdg184 (x y:Dig)(K:CV→Prop):jI Tryz.prog .eql 184 (.c (dg x)) (.c (dg y)) K=K (.bool (x==y)):=(bB1 (by kernel_rfl) ty184 ty5 (by kernel_rfl) x y K).1
theorem nedg184 (x y:Dig)(K:CV→Prop):jI Tryz.prog .neq 184 (.c (dg x)) (.c (dg y)) K=K (.bool (!(x==y))):=(bB1 (by kernel_rfl) ty184 ty5 (by kernel_rfl) x y K).2
theorem mixed :Tryz.prog.follows .mixedOrders=true:=by kernel_rfl
end YtlldglbooaefhaaGreatDoor
end Go.Proofs
namespace Go.Pl
open Go Go.Hl
structure Rq where
 k:Int
 n:Int
 m:Int
 t:aF
def Rq.cv (x:Rq):CV:= .agg [.int .i64 x.k,.int .i64 x.n,.int .i64 x.m,.str x.t]
theorem Rq.cells (x:Rq):x.cv.cells=4:=by simp[Rq.cv,CV.cells,CV.cellsL,dg_cells,bB]
theorem Rq.denil (x:Rq):x.cv.denil=x.cv:=by simp only[Rq.cv,CV.denil,CV.denilL,dg_denil,iE,denilL_str,denilL_dg]
theorem denilL_Rq (l:List Rq):CV.denilL (l.map Rq.cv)=l.map Rq.cv:=cT Rq.denil l
theorem Rq.isAgg (x:Rq):x.cv.isAgg=true:=rfl
theorem Rq.getAll (x:Rq):CV.getAt 0 4 true x.cv=some x.cv:=by
 have:=Rq.cells x;simp_all[Rq.cv,CV.cells,CV.getAt,and_self,if_true]
theorem Rq.setAll (x:Rq)(y:HV):CV.setAt 0 4 y x.cv=some y:=by
 have:=Rq.cells x;simp_all[Rq.cv,CV.cells,CV.setAt,and_self,if_true]
theorem Rq.fold (k:Int)(n:Int)(m:Int)(t:aF):CV.agg [.int .i64 k,.int .i64 n,.int .i64 m,.str t]=Rq.cv ⟨k,n,m,t⟩:=rfl
theorem Rq.get_k (x:Rq):CV.getAt 0 1 false x.cv=some (.int .i64 x.k):=by simp[Rq.cv,CV.getAt,CV.getAtL,CV.cells,CV.cellsL,dg_cells,bB]
theorem Rq.set_k (x:Rq)(y:HV):CV.setAt 0 1 y x.cv=some (.agg [y,.c (.int .i64 x.n),.c (.int .i64 x.m),.c (.str x.t)]):=by simp[Rq.cv,CV.setAt,CV.setAtL,CV.cells,CV.cellsL,dg_cells,bB]
theorem Rq.get_n (x:Rq):CV.getAt 1 1 false x.cv=some (.int .i64 x.n):=by simp[Rq.cv,CV.getAt,CV.getAtL,CV.cells,CV.cellsL,dg_cells,bB]
theorem Rq.set_n (x:Rq)(y:HV):CV.setAt 1 1 y x.cv=some (.agg [.c (.int .i64 x.k),y,.c (.int .i64 x.m),.c (.str x.t)]):=by simp[Rq.cv,CV.setAt,CV.setAtL,CV.cells,CV.cellsL,dg_cells,bB]
theorem Rq.get_m (x:Rq):CV.getAt 2 1 false x.cv=some (.int .i64 x.m):=by simp[Rq.cv,CV.getAt,CV.getAtL,CV.cells,CV.cellsL,dg_cells,bB]
theorem Rq.set_m (x:Rq)(y:HV):CV.setAt 2 1 y x.cv=some (.agg [.c (.int .i64 x.k),.c (.int .i64 x.n),y,.c (.str x.t)]):=by simp[Rq.cv,CV.setAt,CV.setAtL,CV.cells,CV.cellsL,dg_cells,bB]
theorem Rq.get_t (x:Rq):CV.getAt 3 1 false x.cv=some (.str x.t):=by simp[Rq.cv,CV.getAt,CV.getAtL,CV.cells,CV.cellsL,dg_cells,bB]
theorem Rq.set_t (x:Rq)(y:HV):CV.setAt 3 1 y x.cv=some (.agg [.c (.int .i64 x.k),.c (.int .i64 x.n),.c (.int .i64 x.m),y]):=by simp[Rq.cv,CV.setAt,CV.setAtL,CV.cells,CV.cellsL,dg_cells,bB]
structure Nd where
 k:Int
 n:Int
 c:Int
 q:Rq
def Nd.cv (x:Nd):CV:= .agg [.int .i64 x.k,.int .i64 x.n,.int .i64 x.c,x.q.cv]
theorem Nd.cells (x:Nd):x.cv.cells=7:=by simp[Nd.cv,CV.cells,CV.cellsL,dg_cells,bB,Rq.cells]
theorem Nd.denil (x:Nd):x.cv.denil=x.cv:=by simp only[Nd.cv,CV.denil,CV.denilL,dg_denil,iE,denilL_str,denilL_dg,Rq.denil]
theorem denilL_Nd (l:List Nd):CV.denilL (l.map Nd.cv)=l.map Nd.cv:=cT Nd.denil l
theorem Nd.isAgg (x:Nd):x.cv.isAgg=true:=rfl
theorem Nd.getAll (x:Nd):CV.getAt 0 7 true x.cv=some x.cv:=by
 have:=Nd.cells x;simp_all[Nd.cv,CV.cells,CV.getAt,and_self,if_true]
theorem Nd.setAll (x:Nd)(y:HV):CV.setAt 0 7 y x.cv=some y:=by
 have:=Nd.cells x;simp_all[Nd.cv,CV.cells,CV.setAt,and_self,if_true]
theorem Nd.fold (k:Int)(n:Int)(c:Int)(q:Rq):CV.agg [.int .i64 k,.int .i64 n,.int .i64 c,q.cv]=Nd.cv ⟨k,n,c,q⟩:=rfl
theorem Nd.get_k (x:Nd):CV.getAt 0 1 false x.cv=some (.int .i64 x.k):=by simp[Nd.cv,CV.getAt,CV.getAtL,CV.cells,CV.cellsL,dg_cells,bB,Rq.cells]
theorem Nd.set_k (x:Nd)(y:HV):CV.setAt 0 1 y x.cv=some (.agg [y,.c (.int .i64 x.n),.c (.int .i64 x.c),.c (x.q.cv)]):=by simp[Nd.cv,CV.setAt,CV.setAtL,CV.cells,CV.cellsL,dg_cells,bB,Rq.cells]
theorem Nd.get_n (x:Nd):CV.getAt 1 1 false x.cv=some (.int .i64 x.n):=by simp[Nd.cv,CV.getAt,CV.getAtL,CV.cells,CV.cellsL,dg_cells,bB,Rq.cells]
theorem Nd.set_n (x:Nd)(y:HV):CV.setAt 1 1 y x.cv=some (.agg [.c (.int .i64 x.k),y,.c (.int .i64 x.c),.c (x.q.cv)]):=by simp[Nd.cv,CV.setAt,CV.setAtL,CV.cells,CV.cellsL,dg_cells,bB,Rq.cells]
theorem Nd.get_c (x:Nd):CV.getAt 2 1 false x.cv=some (.int .i64 x.c):=by simp[Nd.cv,CV.getAt,CV.getAtL,CV.cells,CV.cellsL,dg_cells,bB,Rq.cells]
theorem Nd.set_c (x:Nd)(y:HV):CV.setAt 2 1 y x.cv=some (.agg [.c (.int .i64 x.k),.c (.int .i64 x.n),y,.c (x.q.cv)]):=by simp[Nd.cv,CV.setAt,CV.setAtL,CV.cells,CV.cellsL,dg_cells,bB,Rq.cells]
theorem Nd.get_q (x:Nd):CV.getAt 3 4 true x.cv=some (x.q.cv):=by simp[Nd.cv,CV.getAt,CV.getAtL,CV.cells,CV.cellsL,dg_cells,bB,Rq.cells,Rq.getAll]
theorem Nd.set_q (x:Nd)(y:HV):CV.setAt 3 4 y x.cv=some (.agg [.c (.int .i64 x.k),.c (.int .i64 x.n),.c (.int .i64 x.c),y]):=by simp[Nd.cv,CV.setAt,CV.setAtL,CV.cells,CV.cellsL,dg_cells,bB,Rq.cells,Rq.setAll]
structure Pr where
 a:aF
 b:aF
 c:aF
 g:Int
 t:List Nd
def Pr.cv (x:Pr):CV:= .agg [.str x.a,.str x.b,.str x.c,.int .i64 x.g,.slc (x.t.map Nd.cv)]
theorem Pr.cells (x:Pr):x.cv.cells=5:=by simp[Pr.cv,CV.cells,CV.cellsL,dg_cells,bB]
theorem Pr.denil (x:Pr):x.cv.denil=x.cv:=by simp only[Pr.cv,CV.denil,CV.denilL,dg_denil,iE,denilL_str,denilL_dg,denilL_Nd]
theorem denilL_Pr (l:List Pr):CV.denilL (l.map Pr.cv)=l.map Pr.cv:=cT Pr.denil l
theorem Pr.isAgg (x:Pr):x.cv.isAgg=true:=rfl
theorem Pr.getAll (x:Pr):CV.getAt 0 5 true x.cv=some x.cv:=by
 have:=Pr.cells x;simp_all[Pr.cv,CV.cells,CV.getAt,and_self,if_true]
theorem Pr.setAll (x:Pr)(y:HV):CV.setAt 0 5 y x.cv=some y:=by
 have:=Pr.cells x;simp_all[Pr.cv,CV.cells,CV.setAt,and_self,if_true]
theorem Pr.fold (a:aF)(b:aF)(c:aF)(g:Int)(t:List Nd):CV.agg [.str a,.str b,.str c,.int .i64 g,.slc (t.map Nd.cv)]=Pr.cv ⟨a,b,c,g,t⟩:=rfl
theorem Pr.get_a (x:Pr):CV.getAt 0 1 false x.cv=some (.str x.a):=by simp[Pr.cv,CV.getAt,CV.getAtL,CV.cells,CV.cellsL,dg_cells,bB]
theorem Pr.set_a (x:Pr)(y:HV):CV.setAt 0 1 y x.cv=some (.agg [y,.c (.str x.b),.c (.str x.c),.c (.int .i64 x.g),.c (.slc (x.t.map Nd.cv))]):=by simp[Pr.cv,CV.setAt,CV.setAtL,CV.cells,CV.cellsL,dg_cells,bB]
theorem Pr.get_b (x:Pr):CV.getAt 1 1 false x.cv=some (.str x.b):=by simp[Pr.cv,CV.getAt,CV.getAtL,CV.cells,CV.cellsL,dg_cells,bB]
theorem Pr.set_b (x:Pr)(y:HV):CV.setAt 1 1 y x.cv=some (.agg [.c (.str x.a),y,.c (.str x.c),.c (.int .i64 x.g),.c (.slc (x.t.map Nd.cv))]):=by simp[Pr.cv,CV.setAt,CV.setAtL,CV.cells,CV.cellsL,dg_cells,bB]
theorem Pr.get_c (x:Pr):CV.getAt 2 1 false x.cv=some (.str x.c):=by simp[Pr.cv,CV.getAt,CV.getAtL,CV.cells,CV.cellsL,dg_cells,bB]
theorem Pr.set_c (x:Pr)(y:HV):CV.setAt 2 1 y x.cv=some (.agg [.c (.str x.a),.c (.str x.b),y,.c (.int .i64 x.g),.c (.slc (x.t.map Nd.cv))]):=by simp[Pr.cv,CV.setAt,CV.setAtL,CV.cells,CV.cellsL,dg_cells,bB]
theorem Pr.get_g (x:Pr):CV.getAt 3 1 false x.cv=some (.int .i64 x.g):=by simp[Pr.cv,CV.getAt,CV.getAtL,CV.cells,CV.cellsL,dg_cells,bB]
theorem Pr.set_g (x:Pr)(y:HV):CV.setAt 3 1 y x.cv=some (.agg [.c (.str x.a),.c (.str x.b),.c (.str x.c),y,.c (.slc (x.t.map Nd.cv))]):=by simp[Pr.cv,CV.setAt,CV.setAtL,CV.cells,CV.cellsL,dg_cells,bB]
theorem Pr.get_t (x:Pr):CV.getAt 4 1 false x.cv=some (.slc (x.t.map Nd.cv)):=by simp[Pr.cv,CV.getAt,CV.getAtL,CV.cells,CV.cellsL,dg_cells,bB]
theorem Pr.set_t (x:Pr)(y:HV):CV.setAt 4 1 y x.cv=some (.agg [.c (.str x.a),.c (.str x.b),.c (.str x.c),.c (.int .i64 x.g),y]):=by simp[Pr.cv,CV.setAt,CV.setAtL,CV.cells,CV.cellsL,dg_cells,bB]
structure Po where
 n:aF
 v:Int
 r:List Pr
def Po.cv (x:Po):CV:= .agg [.str x.n,.int .i64 x.v,.slc (x.r.map Pr.cv)]
theorem Po.cells (x:Po):x.cv.cells=3:=by simp[Po.cv,CV.cells,CV.cellsL,dg_cells,bB]
theorem Po.denil (x:Po):x.cv.denil=x.cv:=by simp only[Po.cv,CV.denil,CV.denilL,dg_denil,iE,denilL_str,denilL_dg,denilL_Pr]
theorem denilL_Po (l:List Po):CV.denilL (l.map Po.cv)=l.map Po.cv:=cT Po.denil l
theorem Po.isAgg (x:Po):x.cv.isAgg=true:=rfl
theorem Po.getAll (x:Po):CV.getAt 0 3 true x.cv=some x.cv:=by
 have:=Po.cells x;simp_all[Po.cv,CV.cells,CV.getAt,and_self,if_true]
theorem Po.setAll (x:Po)(y:HV):CV.setAt 0 3 y x.cv=some y:=by
 have:=Po.cells x;simp_all[Po.cv,CV.cells,CV.setAt,and_self,if_true]
theorem Po.fold (n:aF)(v:Int)(r:List Pr):CV.agg [.str n,.int .i64 v,.slc (r.map Pr.cv)]=Po.cv ⟨n,v,r⟩:=rfl
theorem Po.get_n (x:Po):CV.getAt 0 1 false x.cv=some (.str x.n):=by simp[Po.cv,CV.getAt,CV.getAtL,CV.cells,CV.cellsL,dg_cells,bB]
theorem Po.set_n (x:Po)(y:HV):CV.setAt 0 1 y x.cv=some (.agg [y,.c (.int .i64 x.v),.c (.slc (x.r.map Pr.cv))]):=by simp[Po.cv,CV.setAt,CV.setAtL,CV.cells,CV.cellsL,dg_cells,bB]
theorem Po.get_v (x:Po):CV.getAt 1 1 false x.cv=some (.int .i64 x.v):=by simp[Po.cv,CV.getAt,CV.getAtL,CV.cells,CV.cellsL,dg_cells,bB]
theorem Po.set_v (x:Po)(y:HV):CV.setAt 1 1 y x.cv=some (.agg [.c (.str x.n),y,.c (.slc (x.r.map Pr.cv))]):=by simp[Po.cv,CV.setAt,CV.setAtL,CV.cells,CV.cellsL,dg_cells,bB]
theorem Po.get_r (x:Po):CV.getAt 2 1 false x.cv=some (.slc (x.r.map Pr.cv)):=by simp[Po.cv,CV.getAt,CV.getAtL,CV.cells,CV.cellsL,dg_cells,bB]
theorem Po.set_r (x:Po)(y:HV):CV.setAt 2 1 y x.cv=some (.agg [.c (.str x.n),.c (.int .i64 x.v),y]):=by simp[Po.cv,CV.setAt,CV.setAtL,CV.cells,CV.cellsL,dg_cells,bB]
def gF (a b:Rq):Bool:=a.k==b.k&&(a.n==b.n&&(a.m==b.m&&a.t==b.t))
def aV6 (a b:Nd):Bool:=a.k==b.k&&(a.n==b.n&&(a.c==b.c&&gF a.q b.q))
theorem rA (a b:Rq):gF a b=true↔a=b:=by
 obtain⟨a1,a2,a3,a4⟩:=a;obtain⟨b1,b2,b3,b4⟩:=b;simp only[gF,Bool.and_eq_true,beq_iff_eq,Rq.mk.injEq]
theorem wU (a b:Nd):aV6 a b=true↔a=b:=by
 obtain⟨a1,a2,a3,a4⟩:=a;obtain⟨b1,b2,b3,b4⟩:=b;simp only[aV6,Bool.and_eq_true,beq_iff_eq,Nd.mk.injEq,rA]
theorem bH0 (a:Nd):aV6 a a=true:=(wU a a).2 rfl
def rq0 :Rq:=⟨0,0,0,[]⟩
def nd0 :Nd:=⟨0,0,0,rq0⟩
def inB (n lo hi:Int):Bool:=decide (lo≤n)&&decide (n≤hi)
def fB (q:Rq):Bool:=
 if q.k=1∨q.k=3∨q.k=5 then inB q.n 1 32&&(q.m==0&&q.t==[])
 else if q.k=4 then inB q.n 1 32&&(inB q.m 0 32&&q.t==[])
 else if q.k=2 then dU q.t&&(q.n==0&&q.m==0)
 else if q.k=6 then inB q.n 1 10&&(q.m==0&&q.t==[])
 else if q.k=7 then inB q.n 0 vB&&(q.m==0&&q.t==[])
 else if q.k=8 then q.n==0&&(q.m==0&&q.t==[])
 else false
def cJ (n:Nd):Bool:=
 if n.k=1 then n.c==0&&(n.n==0&&fB n.q)
 else if n.k=2∨n.k=3 then inB n.c 1 60&&(gF n.q rq0&&n.n==0)
 else if n.k=4 then inB n.c 1 60&&(gF n.q rq0&&inB n.n 1 n.c)
 else false
theorem eN {n:Nd}(h:cJ n=true):0≤n.c∧n.c≤60∧(n.k=1→n.c=0)∧(n.k≠1→1≤n.c):=by
 unfold cJ inB at h;split at h
 · grind
 grind
def rB :List Nd→Int→Int→Option (Int×Int)
 |[],m,v=>some (m,v)
 |n::l,m,v=>if m=0 then none else if cJ n then rB l (m+(n.c-1)) (if n.k=1 then v+1 else v)else none
def dV (l:List Nd):Bool:=decide (1≤l.length)&&(decide (l.length≤60)&&(match rB l 1 0 with|some (m,v)=>m==0&&decide (v≤16)|none=>false))
def lv :List Nd→Nat
 |[]=>0
 |n::l=>(if n.k=1 then 1 else 0)+lv l
theorem sZ (a b:List Nd):lv (a++b)=lv a+lv b:=by
 induction a with
 |nil=>simp[lv]
 |cons n a ih=>grind[lv]
theorem cH5 (l:List Nd):lv l≤l.length:=by
 induction l with
 |nil=>simp[lv]
 |cons n l ih=>grind[lv,List.length_cons]
def skip :Nat→List Nd→Option (List Nd)
 |0,l=>some l
 |_+1,[]=>none
 |m+1,n::l=>skip (m+n.c.toNat) l
theorem dH (l:List Nd):skip 0 l=some l:=by cases l<;>rfl
theorem fX : ∀(l:List Nd) (a b:Nat),skip (a+b) l=(skip a l).bind (skip b)
 |l,0,b=>by rw[Nat.zero_add,dH];rfl
 |[],a+1,b=>by rw[show a+1+b=a+b+1 from by omega];rfl
 |n::l,a+1,b=>by
  rw[show a+1+b=a+b+1 from by omega];show skip (a+b+n.c.toNat) l=(skip (a+n.c.toNat) l).bind (skip b);rw[show a+b+n.c.toNat=a+n.c.toNat+b from by omega];exact fX l (a+n.c.toNat) b
theorem iM : ∀(l:List Nd) (m:Nat) (r:List Nd),skip m l=some r→ ∃j,j≤l.length∧r=l.drop j∧(0<m→0<j)∧m≤j+0*l.length+m
 |l,0,r,h=>by rw[dH]at h;cases h;exact⟨0,by omega,by simp,by omega,by omega⟩
 |[],m+1,r,h=>by cases h
 |n::l,m+1,r,h=>by
  obtain⟨j,h1,h2,_,_⟩:=iM l (m+n.c.toNat) r h;exact⟨j+1,by grind,by grind,by omega,by omega⟩
theorem zV : ∀(l:List Nd) (m:Nat) (v v':Int),rB l m v=some (0,v')→skip m l=some []∧v'=v+lv l∧ ∀n∈l,cJ n=true
 |[],m,v,v',h=>by
  simp only[rB,Option.some.injEq,Prod.mk.injEq]at h;obtain⟨h1,rfl⟩:=h;have:m=0:=by omega
  subst this;exact⟨rfl,by simp[lv],by simp⟩
 |n::l,m,v,v',h=>by
  simp only[rB]at h;split at h
  · cases h
  ·
   rename_i h1;split at h
   ·
    rename_i h2;obtain⟨c1,c2,c3,c4⟩:=eN h2;obtain⟨k,rfl⟩: ∃k,m=k+1:=⟨m-1,by omega⟩;have e:((k+1:Nat):Int)+(n.c-1)=((k+n.c.toNat:Nat):Int):=by omega
    rw[e]at h;obtain⟨g1,g2,g3⟩:=zV l _ _ _ h;refine⟨g1,?_,fun x hx=>?_⟩
    · grind[lv]
    grind
   grind
structure IsTree (l:List Nd):Prop where
 ne:1≤l.length
 len:l.length≤60
 skip:skip 1 l=some []
 node: ∀n∈l,cJ n=true
 lv:lv l≤16
theorem lM {l:List Nd}(h:dV l=true):IsTree l:=by
 unfold dV at h;simp only[Bool.and_eq_true,decide_eq_true_eq]at h;obtain⟨h1,h2,h3⟩:=h;split at h3
 · rename_i m v hs;simp only[Bool.and_eq_true,beq_iff_eq,decide_eq_true_eq]at h3;obtain⟨rfl,h4⟩:=h3;obtain⟨g1,g2,g3⟩:=zV l 1 0 v hs;exact⟨h1,h2,g1,g3,by omega⟩
 grind
theorem tA : ∀(l:List Nd) (m:Nat),skip m l=some []→(∀n∈l,cJ n=true)→ ∀i,i<l.length→ ∃k,skip (k+1) (l.drop i)=some []
 |[],m,h,_,i,hi=>by grind
 |n::l,0,h,_,i,hi=>by grind[dH]
 |n::l,m+1,h,hn,0,hi=>⟨m,h⟩
 |n::l,m+1,h,hn,i+1,hi=>by
  have h':skip (m+n.c.toNat) l=some []:=h;exact tA l _ h' (fun x hx=>hn x (List.mem_cons_of_mem _ hx)) i (by grind)
variable {i:Nat}
theorem bP4 {l:List Nd}(h:IsTree l)(hi:i<l.length): ∃j,i<j∧j≤l.length∧skip 1 (l.drop i)=some (l.drop j):=by
 obtain⟨k,hk⟩:=tA l 1 h.skip h.node i hi;rw[Nat.add_comm,fX]at hk;cases h1:skip 1 (l.drop i)with
 |none=>grind
 |some r=>
  grind[iM,List.length_drop,List.drop_drop]
def cU (c:UInt8):Bool:=decide ((33:Int)≤c.toNat)&&decide ((c.toNat:Int)≤125)&&((c.toNat:Int) !=37)
def nO (n:Nat):UInt8:=([48,49,50,51,52,53,54,55,56,57,65,66,67,68,69,70]:List UInt8).getD n 0
def jJ (c:UInt8):List UInt8:=if cU c then [c]else [37,nO (c.toNat/16),nO (c.toNat%16)]
def dA (w:aF):aF:=w.flatMap jJ
def iG (w:aF):aF:=if w=[]then [126]else dA w
def sizeW (w:aF):Nat:=max (dA w).length 1
@[simp] theorem cM9 :dA []=[]:=rfl
theorem cB0 (c:UInt8):(jJ c).length≤3:=by grind[jJ]
theorem bP5 (c:UInt8):1≤(jJ c).length:=by grind[jJ]
theorem rC (w:aF):(dA w).length≤3*w.length:=by
 induction w with
 |nil=>simp_all
 |cons c w ih=>
  grind[cB0,dA,List.length_append,List.length_cons]
theorem aM6 (w:aF):w.length≤(dA w).length:=by
 induction w with
 |nil=>grind
 |cons c w ih=>
  grind[bP5,dA,List.length_append,List.length_cons]
theorem pY {w:aF}(h:i<w.length):dA (w.take (i+1))=dA (w.take i)++jJ w[i]:=by
 simp only[List.take_succ_eq_append_getElem h,dA,List.flatMap_append,List.flatMap_cons,List.flatMap_nil,List.append_nil]
theorem lD (w:aF)(i:Nat):(dA (w.take i)).length≤(dA w).length:=by
 have:dA w=dA (w.take i)++dA (w.drop i):=by simp[dA,←List.flatMap_append]
 grind
theorem rD (w:aF):(iG w).length=sizeW w:=by
 unfold iG sizeW;split
 · simp_all
 · rename_i h;have:=aM6 w;grind[List.length_pos_iff]
theorem nP (w:aF):sizeW w≤3*w.length+1:=by grind[rC,sizeW]
theorem zW (w:aF):1≤sizeW w:=by unfold sizeW;omega
theorem cS1 (n:Nat):(if(1:Int)>(n:Int)then(1:Int)else(n:Int))=((max n 1:Nat):Int):=by split<;>omega
theorem cO3 (c:UInt8):Int.fdiv (c.toNat:Int) (2^(min 4 IntKind.u8.bits))=((c.toNat/16:Nat):Int):=by
 rw[show min 4 IntKind.u8.bits=4 from rfl,Int.fdiv_eq_ediv_of_nonneg _ (by omega)];rfl
theorem cH6 (c:UInt8):IntKind.u8.wrap ((BitVec.ofInt IntKind.u8.bits (c.toNat:Int)&&&BitVec.ofInt IntKind.u8.bits 15).toNat:Int)=((c.toNat%16:Nat):Int):=by
 have h:=c.toNat_lt;have:(BitVec.ofInt IntKind.u8.bits (c.toNat:Int)&&&BitVec.ofInt IntKind.u8.bits 15).toNat=c.toNat%16:=by
  rw[BitVec.toNat_and];have e1:(BitVec.ofInt IntKind.u8.bits (c.toNat:Int)).toNat=c.toNat:=by simp[IntKind.bits]
  have e2:(BitVec.ofInt IntKind.u8.bits 15).toNat=15:=rfl;rw[e1,e2];exact Nat.and_two_pow_sub_one_eq_mod _ 4
 grind[IntWalk.u8_in]
theorem dK : ∀bs:List UInt8,CV.denilL (bs.map dM)=bs.map dM
 |[]=>rfl
 |b::bs=>by simp only[List.map_cons,CV.denilL,dK bs];rfl
def gS :List aF→aF
 |[]=>[]
 |w::l=>iG w++l.flatMap fun v=>32::iG v
theorem bH1 (l:List aF)(w:aF):gS (l++[w])=gS l++((if l=[]then []else [32])++iG w):=by
 cases l with
 |nil=>simp[gS]
 |cons a l=>simp[gS]
variable {l:List aF}
theorem zX (h:i<l.length):gS (l.take (i+1))=gS (l.take i)++((if i=0 then []else [32])++iG l[i]):=by grind[List.take_succ_eq_append_getElem,bH1,List.take_eq_nil_iff]
def yR (l:List aF):aF:=gS l++[10]
def fY (ls:List (List aF)):aF:=ls.flatMap yR
def iU (l:List aF):Nat:=(l.map fun w=>sizeW w+1).sum
def sumD (ls:List (List aF)):Nat:=(ls.map iU).sum
theorem aM7 : ∀(l:List aF),l≠[]→(gS l).length+1=iU l
 |[],h=>absurd rfl h
 |w::l,_=>by
  have: ∀l:List aF,(l.flatMap fun v=>32::iG v).length=iU l:=by
   intro l;induction l with
   |nil=>rfl
   |cons v l ih=>grind[List.length_append,List.length_cons,rD,iU]
  grind[gS,List.length_append,rD,iU]
theorem bP6 (h:l≠[]):(yR l).length=iU l:=by grind[yR,List.length_append,aM7]
theorem bB2 (l:List aF):(gS l).length≤iU l:=by
 cases l with
 |nil=>simp[gS]
 |cons w l=>grind[aM7]
theorem rE : ∀{ls:List (List aF)},(∀l∈ls,l≠[])→(fY ls).length=sumD ls
 |[],_=>rfl
 |l::ls,h=>by
  have ih:=rE (ls:=ls) fun x hx=>h x (List.mem_cons_of_mem _ hx);grind[bP6,List.mem_cons_self,fY,sumD,List.length_append]
variable {ls:List (List aF)}
theorem zY (h:i<ls.length):fY (ls.take (i+1))=fY (ls.take i)++yR ls[i]:=by
 simp only[List.take_succ_eq_append_getElem h,fY,List.flatMap_append,List.flatMap_cons,List.flatMap_nil,List.append_nil]
theorem bH2 (h:i<l.length):iU (l.take (i+1))=iU (l.take i)+(sizeW l[i]+1):=by
 simp only[List.take_succ_eq_append_getElem h,iU,List.map_append,List.sum_append,List.map_cons,List.map_nil,List.sum_cons,List.sum_nil,Nat.add_zero]
theorem bH3 (h:i<ls.length):sumD (ls.take (i+1))=sumD (ls.take i)+iU ls[i]:=by
 simp only[List.take_succ_eq_append_getElem h,sumD,List.map_append,List.sum_append,List.map_cons,List.map_nil,List.sum_cons,List.sum_nil,Nat.add_zero]
@[simp] theorem cO4 :fY []=[]:=rfl
@[simp] theorem cO5 :gS []=[]:=rfl
@[simp] theorem cO6 :iU []=0:=rfl
@[simp] theorem cO7 :sumD []=0:=rfl
theorem rF (l:List aF)(i:Nat):iU (l.take i)≤iU l:=by grind[iU,List.take_append_drop]
theorem aF7 (l:List (List aF))(i:Nat):sumD (l.take i)≤sumD l:=by grind[sumD,List.take_append_drop]
def mF (l:List aF):Int:=
 if l.length=0 then 1 else if 120<l.length then 3 else if l.any (fun w=>decide (32768<w.length))then 3 else 0
def okL (l:List aF):Bool:=mF l==0
theorem kQ (l:List aF):okL l=true↔l≠[]∧l.length≤120∧ ∀w∈l,w.length≤32768:=by
 unfold okL mF;constructor
 ·
  intro h;split at h
  · grind
  ·
   split at h
   · grind
   · grind
 grind
theorem bB3 (h:okL l=true):iU l≤11796720:=by
 obtain⟨-,h1,h2⟩:=(kQ l).1 h;have key: ∀l:List aF,(∀w∈l,w.length≤32768)→iU l≤98306*l.length:=by
  intro l;induction l with
  |nil=>simp_all
  |cons w l ih=>
   grind[List.mem_cons_of_mem,List.mem_cons_self,nP,iU,List.length_cons]
 grind
theorem bB4 (h: ∀l∈ls,okL l=true):sumD ls≤11796720*ls.length:=by
 induction ls with
 |nil=>simp_all
 |cons l ls ih=>
  grind[List.mem_cons_of_mem,bB3,List.mem_cons_self,sumD,List.length_cons]
theorem bP7 (l:List aF)(h: ∀w∈l,w.length≤32768):(gS l).length≤98306*l.length:=by
 have h1:=bB2 l;have key: ∀l:List aF,(∀w∈l,w.length≤32768)→iU l≤98306*l.length:=by
  intro l;induction l with
  |nil=>simp_all
  |cons w l ih=>
   grind[List.mem_cons_of_mem,List.mem_cons_self,nP,iU,List.length_cons]
 grind
theorem tB {α:Type}{p:α→Prop}{l:List α}(h:i<l.length)(h1:p l[i])(h0: ∀x∈l.take i,p x): ∀x∈l.take (i+1),p x:=by
 intro x hx;rw[List.take_succ_eq_append_getElem h,List.mem_append,List.mem_singleton]at hx;grind
def iB (ls:List (List aF)):Int:=
 if 1000<ls.length then 3 else match ls.find? (fun l=>!okL l)with
  |some l=>mF l
  |none=>if 262144<(fY ls).length then 3 else 0
def mG (ls:List (List aF)):aF:=if iB ls=0 then fY ls else []
theorem tC (h:1000<ls.length):iB ls=3:=by unfold iB;grind
theorem rG (h:ls.length≤1000)(hi:i<ls.length)(h0: ∀l∈ls.take i,okL l=true)(h1:okL ls[i]=false):iB ls=mF ls[i]:=by
 unfold iB;rw[if_neg (by omega)];grind[okL,List.find?_eq_some_iff_append,List.getElem_cons_drop,List.take_append_drop]
theorem vK (h:ls.length≤1000)(h0: ∀l∈ls,okL l=true):iB ls=if 262144<(fY ls).length then 3 else 0:=by
 unfold iB;grind
theorem bB5 (h:okL l=false):mF l≠0:=by grind[okL]
theorem iV (h:iB ls≠0):mG ls=[]:=by unfold mG;grind
theorem vL (h:iB ls=0):mG ls=fY ls:=by unfold mG;grind
def cH7 (n:Nat):UInt8:=([48,49,50,51,52,53,54,55,56,57,97,98,99,100,101,102]:List UInt8).getD n 0
def cS2 (c:UInt8):List UInt8:=[cH7 (c.toNat/16),cH7 (c.toNat%16)]
def cJ7 (bs:List UInt8):List UInt8:=bs.flatMap cS2
@[simp] theorem cO8 :cJ7 []=[]:=rfl
end Go.Pl
namespace Go.Hl
open Go Go.Pl
variable {fn:Func}{f:FuncId}{P:Program}
theorem tD {e:Array Value→Sem Value}{args:List CV}{R:CV→Prop}(hf:P.funcs[f]? =some fn)(hname:(fn.name== "runtime.NumGoroutine")=false)
  (hb:fn.body.isNone=true) (hn:Extern.findNext fn=none) (he:Extern.find fn=some e)
  (h: ∀(w:World) (ρ:Env) (O:Nat→Prop) (xs:List Value),RepHV w ρ O (args.map .c) xs→ ∃v x,R v∧RepV w ρ O (.c v) x∧(e xs.toArray).run P w= .ok x w):cG P f args R:=by
 refine⟨by grind[bF6],fun w ρ X xs hS hA hX=> .inr ⟨by grind[fH,Option.isNone_iff_eq_none],?_⟩⟩;obtain⟨v,x,hR,hv,hrun⟩:=h w ρ _ xs hA;refine⟨x,by simp_all[run_callFunc_extern],.c v,dE,ρ,x,rfl,⟨v,rfl,hR,rfl⟩,⟨hv,hS,by simp[HV.men],fun id o h=>by simp[dE]at h,Stay2.refl _ _,Moves.refl _ _⟩⟩
theorem bB6 {w:World}{O:Nat→Prop}: ∀{l:List UInt8} {xs:List Value},RepL w O (l.map u8) xs→xs=l.map fun b=> .int .u8 (b.toNat:Int)
 |[],xs,h=>by simpa[RepL]using h
 |b::l,xs,h=>by
  simp only[List.map_cons,RepL,u8,RepC]at h;obtain⟨c1,c2,rfl,rfl,h2⟩:=h;rw[bB6 h2];rfl
variable {x:Value}{l:List UInt8}{O:Nat→Prop}{ρ:Env}{w:World}
theorem bH4 (h:RepV w ρ O (.c (.slc (l.map u8))) x):(Extern.Bytes.bytesOf x).run P w= .ok ⟨l.toArray⟩ w:=by
 have h1:=h.single rfl;simp only[RepC,List.cons.injEq,and_true]at h1;obtain⟨a,cap,xs,sz,rfl,h2,_,h4,h5,h6⟩:=h1;have hx:=bB6 h2;cases a with
 |none=>
  have:=h5 rfl;have hl:l=[]:=by
   have:l.length=0:=by simp only[List.length_map]at h4;omega
   exact List.eq_nil_of_length_eq_zero this
  subst hl;simp only[Extern.Bytes.bytesOf,Sem.run_pure];rfl
 |some ad=>
  have hr:=(h6 ad rfl).1;have:=Go.Lib.run_loadBytesX (P:=P) w (l.map fun b=>(b.toNat:Int)) ad .empty (fun j y hj=>hr j _ (by
   rw[hx];rw[List.getElem?_map]at hj⊢;cases hb:l[j]? with
   |none=>rw[hb]at hj;cases hj
   |some b=>rw[hb]at hj;cases hj;rfl))
  simp only[List.length_map]at this;simp only[Extern.Bytes.bytesOf,List.length_map,this];congr 2;simp only[Go.Lib.bytesOf,List.map_map];have e:l.map ((fun n:Int=>n.toNat.toUInt8)∘fun b:UInt8=>(b.toNat:Int))=l:=by
   conv=>rhs;rw[←List.map_id l]
   exact List.map_congr_left fun b _=>by simp
  rw[e];simp
theorem aV7 {p:Nat→Bool}(n:Nat):(List.range (n+1)).find? p=if p 0 then some 0 else((List.range n).find? fun i=>p (i+1)).map (· +1):=by
 rw[List.range_succ_eq_map,List.find?_cons,List.find?_map];split<;>simp_all[Function.comp];rfl
def dQ (l:List UInt8)(c:UInt8):Int:=match l.findIdx? (· ==c)with|some i=>(i:Int)|none=> -1
theorem aM8 {α:Type}{p:α→Bool}(d:α): ∀(l:List α),(List.range l.length).find? (fun i=>p (l.getD i d))=l.findIdx? p
 |[]=>rfl
 |a::l=>by
  rw[List.length_cons,aV7,List.findIdx?_cons];simp only[List.getD_cons_zero,List.getD_cons_succ];rw[aM8 d l]
variable {c:UInt8}{y:Value}
theorem bB7 (hx:(Extern.Bytes.bytesOf x).run P w= .ok ⟨l.toArray⟩ w)(hy:(Extern.Bytes.asByte y).run P w= .ok c w):
  (Extern.BytealgIndexByte.indexByte #[x,y]).run P w= .ok (.int .i64 (dQ l c)) w:=by
 change (Sem.run P (do
  let b←Extern.Bytes.bytesOf x
  let c←Extern.Bytes.asByte y
  match(List.range b.size).find? fun i=>b[i]! ==c with
  |some i=>pure (goInt i)
  |none=>pure (goInt (-1))) w)=_
 simp only[Sem.run_bind,hx,hy,Result.andThen_ok];have h1:(⟨l.toArray⟩:ByteArray).size=l.length:=by simp[ByteArray.size]
 have h2: ∀i:Nat,(⟨l.toArray⟩:ByteArray)[i]! =l.getD i 0:=fun i=>by exact Go.Lib.get!_eq l i
 simp only[h1,h2,aM8 (p:=fun b=>b==c)];unfold dQ;cases l.findIdx? fun b=>b==c<;>rfl
theorem wV (h:RepV w ρ O (.c (u8 c)) y):(Extern.Bytes.asByte y).run P w= .ok c w:=by
 have h1:=h.single rfl;simp_all[u8,RepC,List.cons.injEq,and_true,Extern.Bytes.asByte]
theorem cJ8 (hf:P.funcs[f]? =some fn)(hname:(fn.name== "runtime.NumGoroutine")=false)(hb:fn.body.isNone=true)(hn:Extern.findNext fn=none)
  (he:Extern.find fn=some Extern.BytealgIndexByte.indexByte) (l:List UInt8) (c:UInt8):cG P f [.slc (l.map u8),u8 c] (fun v=>v= .int .i64 (dQ l c)):=
 tD hf hname hb hn he fun w ρ O xs h=>by
  simp only[List.map_cons,List.map_nil,bU,RepHV]at h;obtain⟨x,l1,rfl,hx,y,l2,rfl,hy,rfl⟩:=h;exact⟨_,_,rfl,eJ _ _ _ _ _,bB7 (bH4 hx) (wV hy)⟩
theorem cB1 (hf:P.funcs[f]? =some fn)(hname:(fn.name== "runtime.NumGoroutine")=false)(hb:fn.body.isNone=true)(hn:Extern.findNext fn=none)
  (he:Extern.find fn=some Extern.BytealgIndexByte.indexByte) (l:List UInt8) (c:UInt8):cG P f [.str l,u8 c] (fun v=>v= .int .i64 (dQ l c)):=
 tD hf hname hb hn he fun w ρ O xs h=>by
  simp only[List.map_cons,List.map_nil,bU,RepHV]at h;obtain⟨x,l1,rfl,hx,y,l2,rfl,hy,rfl⟩:=h;have hx':(Extern.Bytes.bytesOf x).run P w= .ok ⟨l.toArray⟩ w:=by
   have h1:=hx.single rfl;simp only[RepC,List.cons.injEq,and_true]at h1;subst h1;rfl
  exact⟨_,_,rfl,eJ _ _ _ _ _,bB7 hx' (wV hy)⟩
end Go.Hl
namespace Go.Pl
open Go Go.Hl
def aS (c:UInt8):List UInt8→List (List UInt8)
 |[]=>[[]]
 |b::l=>if b=c then []::aS c l else match aS c l with
  |x::xs=>(b::x)::xs
  |[]=>[[b]]
theorem dC (c:UInt8)(l:List UInt8):aS c l≠[]:=by
 cases l with
 |nil=>simp[aS]
 |cons b l=>grind[aS]
theorem pZ (c:UInt8): ∀l:List UInt8,match l.findIdx? (· ==c)with
  |some i=>i<l.length∧aS c l=l.take i::aS c (l.drop (i+1))
  |none=>aS c l=[l]
 |[]=>rfl
 |b::l=>by
  have ih:=pZ c l;rw[List.findIdx?_cons];by_cases h:b=c
  · grind[aS]
  ·
   have hb:(b==c)=false:=by simpa using h
   simp only[hb,Bool.false_eq_true,if_false];cases hf:l.findIdx? (· ==c)with
   |none=>
    simp_all[Option.map_none,aS,if_neg]
   |some i=>
    simp_all[Option.map_some,aS,if_neg,List.length_cons,List.take_succ_cons,List.drop_succ_cons,trivial]
variable {c:UInt8}
theorem nQ {l:List UInt8}(h:dQ l c<0):aS c l=[l]:=by
 have:=pZ c l;grind[dQ]
theorem eG {l:List UInt8}(h: ¬dQ l c<0): ∃i:Nat,dQ l c=(i:Int)∧i<l.length∧aS c l=l.take i::aS c (l.drop (i+1)):=by
 have:=pZ c l;unfold dQ at h⊢;grind
theorem eX (c:UInt8): ∀l:List UInt8,(aS c l).length≤l.length+1
 |[]=>by simp[aS]
 |b::l=>by
  have ih:=eX c l;grind[aS,List.length_cons]
theorem mH (c:UInt8): ∀(l:List UInt8),∀p∈aS c l,p.length≤l.length
 |[],p,hp=>by grind[aS]
 |b::l,p,hp=>by
  have ih:=mH c l;unfold aS at hp;split at hp
  · grind
  ·
   split at hp
   · grind
   grind
def valH (c:UInt8):Nat:=if 48≤c.toNat∧c.toNat≤57 then c.toNat-48 else if 65≤c.toNat∧c.toNat≤70 then c.toNat-55 else 16
theorem bB8 (c:UInt8):valH c≤16:=by grind[valH]
def byteH (x y:UInt8):UInt8:=UInt8.ofNat (16*valH x+valH y)
def okH (x y:UInt8):Bool:=decide (valH x<16)&&decide (valH y<16)&&!cU (byteH x y)
def unB :List UInt8→Option aF
 |[]=>some []
 |c::l=>if cU c then(unB l).map (c::·)else if c=37 then match l with
   |x::y::l'=>if okH x y then(unB l').map (byteH x y::·)else none
   |_=>none
  else none
def unW (s:aF):Option aF:=if s=[126]then some []else if s=[]then none else unB s
variable {l:aF}
theorem oV {c:UInt8}(h:cU c=true):unB (c::l)=(unB l).map (c::·):=by
 rw[unB.eq_def];grind
theorem vM {c:UInt8}(h:cU c=false)(h1:c≠37∨l.length<2):unB (c::l)=none:=by
 rw[unB.eq_def];grind
theorem aF8 {x y:UInt8}(h:okH x y=true):unB (37::x::y::l)=(unB l).map (byteH x y::·):=by
 rw[unB.eq_def];simp_all[cU,Bool.false_eq_true,if_false,if_true]
theorem uJ {x y:UInt8}(h:okH x y=false):unB (37::x::y::l)=none:=by simp_all[unB.eq_def,cU,Bool.false_eq_true,if_false,if_true]
theorem cJ9 {s:aF}{w:aF}(hs:s≠[])(h:unB s=some w):w≠[]:=by
 cases s with
 |nil=>grind
 |cons c l=>
  by_cases hp:cU c=true
  · rw[oV hp,Option.map_eq_some_iff]at h;grind
  ·
   have hp:cU c=false:=by simpa using hp
   rw[unB.eq_def]at h;simp only[hp,Bool.false_eq_true,if_false]at h;split at h
   ·
    split at h
    ·
     split at h
     · rw[Option.map_eq_some_iff]at h;grind
     grind
    grind
   grind
def cB2 :List UInt8:=[48,49,50,51,52,53,54,55,56,57,65,66,67,68,69,70]
set_option maxRecDepth 20000 in
theorem rH (c:UInt8):dQ cB2 c=if valH c<16 then(valH c:Int)else-1:=by
 have h: ∀n:Fin 256,dQ cB2 (UInt8.ofNat n.1)=if valH (UInt8.ofNat n.1)<16 then(valH (UInt8.ofNat n.1):Int)else-1:=by decide
 have:=h ⟨c.toNat,c.toNat_lt⟩;simp_all
theorem tE {x y:UInt8}(hx:valH x<16)(hy:valH y<16):(byteH x y).toNat=16*valH x+valH y:=by grind[byteH,UInt8.toNat_ofNat']
def UnSt (s:aF)(i:Nat)(out:aF):Prop:=i≤s.length∧unB s=(unB (s.drop i)).map (out++·)∧(out=[]→i=0)∧out.length≤i
section
variable {s:aF}{i:Nat}{out:aF}
theorem UnSt.init (s:aF):UnSt s 0 []:=⟨Nat.zero_le _,by simp,fun _=>rfl,Nat.le_refl _⟩
theorem UnSt.plain (h:UnSt s i out)(hi:i<s.length)(hp:cU s[i]=true):UnSt s (i+1) (out++[s[i]]):=by
 obtain⟨_,h2,_,h4⟩:=h;refine⟨hi,?_,by simp,by grind⟩;rw[h2,List.drop_eq_getElem_cons hi,oV hp,Option.map_map];congr 1;grind
theorem UnSt.bad1 (h:UnSt s i out)(hi:i<s.length)(hp:cU s[i]=false)(h1:s[i]≠37∨s.length≤i+2):unB s=none:=by
 rw[h.2.1,List.drop_eq_getElem_cons hi,vM hp (h1.imp id fun h=>by grind)];rfl
theorem cH8 {s:aF}{i:Nat}(hi:i+2<s.length):s.drop i=s[i]::s[i+1]::s[i+2]::s.drop (i+3):=by
 rw[List.drop_eq_getElem_cons (show i<s.length by omega),List.drop_eq_getElem_cons (show i+1<s.length by omega),List.drop_eq_getElem_cons hi]
theorem UnSt.esc (h:UnSt s i out)(hi:i+2<s.length)(h37:s[i]=37)(hok:okH s[i+1] s[i+2]=true):UnSt s (i+3) (out++[byteH s[i+1] s[i+2]]):=by
 obtain⟨_,h2,_,h4⟩:=h;refine⟨hi,?_,by simp,by simp;omega⟩;rw[h2,cH8 hi,h37,aF8 hok,Option.map_map];congr 1;funext l;simp
theorem UnSt.bad2 (h:UnSt s i out)(hi:i+2<s.length)(h37:s[i]=37)(hok:okH s[i+1] s[i+2]=false):unB s=none:=by
 rw[h.2.1,cH8 hi,h37,uJ hok];rfl
theorem gJ (h:unB s=none)(h1:s≠[126]):unW s=none:=by simp_all[unW,if_neg]
theorem UnSt.fin (h:UnSt s i out)(hi:i=s.length)(h1:s≠[126]):unW s=if out=[]then none else some out:=by
 subst hi;obtain⟨_,h2,h3,h4⟩:=h;rw[List.drop_length]at h2;unfold unW;rw[if_neg h1];by_cases ho:out=[]
 · grind
 ·
  have hs:s≠[]:=by
   rintro rfl;simp only[List.length_nil,Nat.le_zero]at h4;exact ho (List.eq_nil_of_length_eq_zero h4)
  simp_all[if_neg,unB]
end
def CutR (l:List UInt8)(c:UInt8)(li re:List UInt8)(fd:Bool):Prop:=
 (fd=false∧dQ l c<0∧li=l∧re=[])∨(fd=true∧ ∃i:Nat,dQ l c=(i:Int)∧i<l.length∧li=l.take i∧re=l.drop (i+1))
def unL (r:aF):Option (List aF):=(aS 32 r).mapM unW
def unR (r:aF):Option (List aF):=match unL r with|some ws=>if okL ws then some ws else none|none=>none
def gG (b:aF):Option (List (List aF)):=
 if b=[]then some []else if(aS 10 b).getLast (dC 10 b)=[]then(aS 10 b).dropLast.mapM unR else none
variable {li re:aF}
theorem aM9 (hc:CutR l 10 li re true):gG l=(unR li).bind fun ws=>(gG re).map (ws::·):=by
 rcases hc with⟨h,_⟩|⟨_,i,h1,h2,rfl,rfl⟩
 · cases h
 ·
  obtain⟨i',h3,_,hsp⟩:=eG (l:=l) (c:=10) (by omega);have:i'=i:=by omega
  subst this;have hne:l≠[]:=by rintro rfl;simp at h2
  have hd:gG l=if(aS 10 (l.drop (i'+1))).getLast (dC 10 _)=[]then(l.take i'::(aS 10 (l.drop (i'+1))).dropLast).mapM unR else none:=by
   unfold gG;rw[if_neg hne];simp only[hsp];grind[List.getLast_cons,dC,List.dropLast_cons_of_ne_nil]
  rw[hd];have he:gG (l.drop (i'+1))=if(aS 10 (l.drop (i'+1))).getLast (dC 10 _)=[]then(aS 10 (l.drop (i'+1))).dropLast.mapM unR else none:=by
   unfold gG;split
   · rename_i h;rw[h];rfl
   · rfl
  rw[he];split
  ·
   rw[List.mapM_cons];cases unR (l.take i')with
   |none=>rfl
   |some ws=>cases(aS 10 (l.drop (i'+1))).dropLast.mapM unR<;>rfl
  simp_all
theorem wW (hc:CutR l 10 li re false)(hne:l≠[]):gG l=none:=by
 rcases hc with⟨_,h,_⟩|⟨h,_⟩
 all_goals simp_all[gG,if_neg,nQ,List.getLast_singleton]
variable {fd:Bool}
theorem bP8 (hc:CutR l 10 li re fd)(hne:l≠[])(h:unR li=none):gG l=none:=by
 cases fd with
 |false=>exact wW hc hne
 |true=>rw[aM9 hc,h];rfl
theorem CutR.lt (hc:CutR l c li re fd)(hne:l≠[]):re.length<l.length∧li.length≤l.length:=by
 have:0<l.length:=List.length_pos_iff.2 hne;rcases hc with⟨_,_,rfl,rfl⟩|⟨_,i,_,h,rfl,rfl⟩
 all_goals grind
def wsT (r:aF)(i:Nat):List aF:=((aS 32 r).take i).map fun p=>(unW p).getD []
def aN0 (r:aF)(i:Nat):Prop:= ∀p∈(aS 32 r).take i,(unW p).isSome=true
variable {i:Nat}{r:aF}
theorem aN1 (h:i<(aS 32 r).length):wsT r (i+1)=wsT r i++[(unW (aS 32 r)[i]).getD []]:=by
 simp only[wsT,List.take_succ_eq_append_getElem h,List.map_append,List.map_cons,List.map_nil]
theorem qA (h:i≤(aS 32 r).length):(wsT r i).length=i:=by grind[wsT,List.length_map,List.length_take]
theorem zZ (h:i<(aS 32 r).length)(h1:aN0 r i)(h2:(unW (aS 32 r)[i]).isSome=true):aN0 r (i+1):=by
 intro p hp;rw[List.take_succ_eq_append_getElem h,List.mem_append,List.mem_singleton]at hp;rcases hp with hp|rfl
 · exact h1 p hp
 · exact h2
theorem oW {α β:Type}{f:α→Option β}: ∀{l:List α} {x:α},x∈l→f x=none→l.mapM f=none
 |a::l,x,hx,h=>by
  rw[List.mapM_cons];rcases List.mem_cons.1 hx with rfl|hx
  · grind
  · rw[oW hx h];simp_all
theorem rJ {α β:Type}{f:α→Option β}(d:β): ∀{l:List α},(∀x∈l,(f x).isSome=true)→l.mapM f=some (l.map fun x=>(f x).getD d)
 |[],_=>rfl
 |a::l,h=>by
  rw[List.mapM_cons,rJ d fun x hx=>h x (List.mem_cons_of_mem _ hx)];grind[Option.isSome_iff_exists,List.mem_cons_self]
theorem bP9 (h:i<(aS 32 r).length)(h2:(unW (aS 32 r)[i]).isSome=false):unR r=none:=by
 unfold unR unL;rw[oW (List.getElem_mem h) (by simpa using h2)]
theorem cB3 (h:aN0 r (aS 32 r).length):unR r=if okL (wsT r (aS 32 r).length)then some (wsT r (aS 32 r).length)else none:=by
 unfold aN0 at h;rw[List.take_length]at h;unfold unR unL;rw[rJ [] h];simp only[wsT,List.take_length]
def DecSt (b rest:aF)(ls:List (List aF)):Prop:=gG b=(gG rest).map (ls++·)∧rest.length≤b.length∧ls.length+rest.length≤b.length
theorem DecSt.init (b:aF):DecSt b b []:=⟨by simp,Nat.le_refl _,by simp⟩
variable {ls:List (List aF)}{b rest:aF}
theorem DecSt.bad (h:DecSt b rest ls)(hc:CutR rest 10 li re fd)(hne:rest≠[])(hb:unR li=none):gG b=none:=by
 rw[h.1,bP8 hc hne hb];rfl
theorem DecSt.bad0 (h:DecSt b rest ls)(hc:CutR rest 10 li re false)(hne:rest≠[]):gG b=none:=by
 rw[h.1,wW hc hne];rfl
theorem DecSt.next (h:DecSt b rest ls)(hc:CutR rest 10 li re true)(hne:rest≠[]){ws:List aF}(hb:unR li=some ws):DecSt b re (ls++[ws]):=by
 have hl:=hc.lt hne;obtain⟨h1,h2,h3⟩:=h;refine⟨?_,by omega,by grind⟩;rw[h1,aM9 hc,hb];cases gG re with
 |none=>rfl
 |some l=>simp
theorem DecSt.fin (h:DecSt b [] ls):gG b=some ls:=by
 rw[h.1];simp[gG]
def eL (b:aF):Int:=if 262144<b.length then 3 else match gG b with|some ls=>if 1000<ls.length then 2 else 0|none=>2
def decO (b:aF):List (List aF):=if eL b=0 then(gG b).getD []else []
def kR (w:aF):Bool:=!(w==[])&&(!(w==[46])&&!(w==[46,46]))
def kS (s:aF):Bool:=decide (1≤s.length)&&(decide (s.length≤200)&&(!s.contains 0&&(aS 47 s).all kR))
structure Pt where
 k:Nat
 c:UInt8
def Pt.cv (x:Pt):CV:= .agg [.int .i64 x.k,.int .u8 x.c.toNat]
theorem Pt.cells (x:Pt):x.cv.cells=2:=by simp[Pt.cv,CV.cells,CV.cellsL]
theorem Pt.denil (x:Pt):x.cv.denil=x.cv:=by simp only[Pt.cv,CV.denil,CV.denilL]
theorem denilL_Pt (l:List Pt):CV.denilL (l.map Pt.cv)=l.map Pt.cv:=cT Pt.denil l
theorem Pt.isAgg (x:Pt):x.cv.isAgg=true:=rfl
theorem Pt.getAll (x:Pt):CV.getAt 0 2 true x.cv=some x.cv:=by
 have:=Pt.cells x;simp_all[Pt.cv,CV.cells,CV.getAt,and_self,if_true]
theorem Pt.setAll (x:Pt)(y:HV):CV.setAt 0 2 y x.cv=some y:=by
 have:=Pt.cells x;simp_all[Pt.cv,CV.cells,CV.setAt,and_self,if_true]
theorem Pt.fold (k:Nat)(c:UInt8):CV.agg [.int .i64 k,.int .u8 c.toNat]=Pt.cv ⟨k,c⟩:=rfl
theorem Pt.get_k (x:Pt):CV.getAt 0 1 false x.cv=some (.int .i64 x.k):=by simp[Pt.cv,CV.getAt,CV.getAtL,CV.cells,CV.cellsL]
theorem Pt.get_c (x:Pt):CV.getAt 1 1 false x.cv=some (.int .u8 x.c.toNat):=by simp[Pt.cv,CV.getAt,CV.getAtL,CV.cells,CV.cellsL]
def patP :aF→Option (List Pt)
 |[]=>some []
 |c::l=>if c=0 then none
  else if c=92 then match l with
   |[]=>none
   |d::r=>if d=0 then none else(patP r).map (⟨0,d⟩::·)
  else if c=63 then(patP l).map (⟨1,0⟩::·)
  else if c=42 then match l with
   |[]=>some [⟨2,0⟩]
   |d::r=>if d=42 then(patP r).map (⟨3,0⟩::·)else(patP (d::r)).map (⟨2,0⟩::·)
  else(patP l).map (⟨0,c⟩::·)
def fL (p:aF):Option (List Pt):=if p.length<1∨200<p.length then none else patP p
theorem jR : ∀(n:Nat) (l:aF),l.length≤n→0∈l→patP l=none
 |_,[],_,h=>by grind
 |0,_::_,hn,_=>by grind
 |n+1,c::l,hn,h=>by
  have hn':l.length≤n:=by simpa using hn
  rw[patP.eq_def];simp only;split
  · rfl
  ·
   rename_i hc;have hl:0∈l:=by
    rcases List.mem_cons.1 h with h|h
    · grind
    · exact h
   split
   ·
    cases l with
    |nil=>rfl
    |cons d r=>
     simp only;split
     · rfl
     ·
      rename_i hd;have hr:0∈r:=by
       rcases List.mem_cons.1 hl with h|h
       · grind
       · exact h
      rw[jR n r (by grind) hr];rfl
   ·
    split
    · rw[jR n l hn' hl];rfl
    ·
     split
     ·
      cases l with
      |nil=>grind
      |cons d r=>
       simp only;split
       ·
        rename_i hd;have hr:0∈r:=by
         rcases List.mem_cons.1 hl with h|h
         · grind
         · exact h
        rw[jR n r (by grind) hr];rfl
       · rw[jR n (d::r) hn' hl];rfl
     · rw[jR n l hn' hl];rfl
theorem bB9 : ∀(n:Nat) (l:aF) (ps:List Pt),l.length≤n→patP l=some ps→ps.length≤l.length∧ ∀x∈ps,x.k≤3
 |_,[],ps,_,h=>by grind[patP.eq_def]
 |0,_::_,_,hn,_=>by grind
 |n+1,c::l,ps,hn,h=>by
  have hn':l.length≤n:=by simpa using hn
  have key: ∀(r:aF) (x:Pt),r.length≤l.length→x.k≤3→(patP r).map (x::·)=some ps→ps.length≤(c::l).length∧ ∀x∈ps,x.k≤3:=by
   intro r x hr hx h;cases hp:patP r with
   |none=>grind
   |some q=>
    rw[hp]at h;cases h;obtain⟨g1,g2⟩:=bB9 n r q (by omega) hp;grind
  rw[patP.eq_def]at h;simp only at h;split at h
  · cases h
  ·
   split at h
   · grind
   ·
    split at h
    · grind
    ·
     split at h
     · grind
     grind
def PatSt (p:aF)(i:Nat)(out:List Pt):Prop:=i≤p.length∧patP p=(patP (p.drop i)).map (out++·)∧out.length≤i∧ ∀x∈out,x.k≤3
theorem PatSt.init (p:aF):PatSt p 0 []:=⟨by omega,by simp,by simp,by simp⟩
section
variable {p:aF}{i:Nat}{out:List Pt}
theorem PatSt.fin (h:PatSt p i out)(hi:i=p.length):patP p=some out:=by
 rw[h.2.1,hi,List.drop_length,patP.eq_def];simp
theorem PatSt.step (h:PatSt p i out){k:Nat}{x:Pt}(hk:i+k≤p.length)(h0:1≤k)(hx:x.k≤3)(he:patP (p.drop i)=(patP (p.drop (i+k))).map (x::·)):PatSt p (i+k) (out++[x]):=by
 refine⟨hk,?_,by have:=h.2.2.1;grind,fun y hy=>?_⟩
 · rw[h.2.1,he,Option.map_map];congr 1;grind
 ·
  rcases List.mem_append.1 hy with hy|hy
  · exact h.2.2.2 y hy
  grind
theorem PatSt.bad (h:PatSt p i out)(he:patP (p.drop i)=none):patP p=none:=by rw[h.2.1,he];rfl
theorem bQ0 {p:aF}{i:Nat}(h:i+1<p.length):p.drop i=p[i]::p[i+1]::p.drop (i+2):=by
 rw[List.drop_eq_getElem_cons (by omega),List.drop_eq_getElem_cons h]
theorem aN2 (hi:i+1<p.length)(h1:p[i]=92)(h2:p[i+1]≠0):patP (p.drop i)=(patP (p.drop (i+2))).map (⟨0,p[i+1]⟩::·):=by
 rw[bQ0 hi,patP.eq_def];simp only;rw[if_neg (by rw[h1];decide),if_pos h1,if_neg h2]
theorem bH5 (hi:i+1<p.length)(h1:p[i]=92)(h2:p[i+1]=0):patP (p.drop i)=none:=by
 rw[bQ0 hi,patP.eq_def];simp only;rw[if_neg (by rw[h1];decide),if_pos h1,if_pos h2]
theorem aA0 (hi:i<p.length)(h1:p[i]=92)(he:i+1=p.length):patP (p.drop i)=none:=by simp_all[List.drop_eq_getElem_cons,List.drop_eq_nil_of_le,patP.eq_def,if_neg,if_pos]
theorem bQ1 (hi:i<p.length)(h1:p[i]=63):patP (p.drop i)=(patP (p.drop (i+1))).map (⟨1,0⟩::·):=by
 rw[List.drop_eq_getElem_cons hi,patP.eq_def];grind
theorem bC0 (hi:i+1<p.length)(h1:p[i]=42)(h2:p[i+1]=42):patP (p.drop i)=(patP (p.drop (i+2))).map (⟨3,0⟩::·):=by
 rw[bQ0 hi,patP.eq_def];simp only;rw[if_neg (by rw[h1];decide),if_neg (by rw[h1];decide),if_neg (by rw[h1];decide),if_pos h1,if_pos h2]
theorem aF9 (hi:i<p.length)(h1:p[i]=42)(h2: ∀h:i+1<p.length,p[i+1]≠42):patP (p.drop i)=(patP (p.drop (i+1))).map (⟨2,0⟩::·):=by
 rw[List.drop_eq_getElem_cons hi,patP.eq_def];simp only;rw[if_neg (by rw[h1];decide),if_neg (by rw[h1];decide),if_neg (by rw[h1];decide),if_pos h1];rcases Nat.lt_or_ge (i+1) p.length with h|h
 · rw[List.drop_eq_getElem_cons h];simp only;rw[if_neg (h2 h)]
 · rw[List.drop_eq_nil_of_le h];simp only;rw[patP.eq_def];rfl
theorem aN3 (hi:i<p.length)(h1:p[i]=0):patP (p.drop i)=none:=by simp_all[List.drop_eq_getElem_cons,patP.eq_def,if_pos]
theorem bQ2 (hi:i<p.length)(h0:p[i]≠0)(h1:p[i]≠92)(h2:p[i]≠63)(h3:p[i]≠42):patP (p.drop i)=(patP (p.drop (i+1))).map (⟨0,p[i]⟩::·):=by
 rw[List.drop_eq_getElem_cons hi,patP.eq_def];grind
end
def Pt.long (x:Pt):Bool:=decide (2≤x.k)
def Pt.takes (x:Pt)(c:UInt8):Bool:=if x.k=0 then c==x.c else if x.k=3 then true else !(c==47)
def mD (ps:List Pt)(s:aF):Nat→Nat→Bool
 |0,0=>true
 |0,_+1=>false
 |k+1,0=>(ps.getD k ⟨0,0⟩).long&&mD ps s k 0
 |k+1,i+1=>if(ps.getD k ⟨0,0⟩).long then mD ps s k (i+1)||(mD ps s (k+1) i&&(ps.getD k ⟨0,0⟩).takes (s.getD i 0))
  else mD ps s k i&&(ps.getD k ⟨0,0⟩).takes (s.getD i 0)
termination_by k i=>k+i
def mI (p s:aF):Bool:=match fL p with|some ps=>kS s&&mD ps s ps.length s.length|none=>false
def mN (ps:List Pt)(s:aF)(k i:Nat):Bool:=if k<ps.length∧(ps.getD k ⟨0,0⟩).long=true then mD ps s (k+1) i else mD ps s k i
end Go.Pl
namespace Go.Hl
open Go
section
variable {P:Program}{av:List Nat}{f:FuncId}{ob:Ob}{nid id n:Nat}{K:HV→Ob→Prop}{T e:TypeId}{sz:Nat}{v:CV}{l:List CV}
end
def gT (P:Program)(f:FuncId)(args:List CV)(R:CV→CV→Prop):Prop:=
 HFn P f (args.map .c) 0 dE (fun r ob'=> ∃u v,r= .tup [.c u,.c v]∧R u v∧ob'=dE)
variable {R:CV→CV→Prop}{ob:Ob}
theorem aO {r:HV}(cl:List Nat)(u v:CV)(h:(r.close ob cl).norm= .tup [.c u,.c v])(hR:R u v):mB 0 r ob (fun r ob'=> ∃u v,r= .tup [.c u,.c v]∧R u v∧ob'=dE):=
 ⟨cl,id,.tup [.c u,.c v],dE,⟨u,v,rfl,hR,rfl⟩,by rw[h];rfl,fun _ h=>by omega,fun _ _ _ _ h=>h,by simp[HV.men,HV.menL],fun j o h=>by simp[dE]at h⟩
theorem wX {P:Program}{av:List Nat}{f:FuncId}{nid:Nat}{K:HV→Ob→Prop}{args:List CV}(h:gT P f args R)(hfree:Free4 ob nid)(hK: ∀u v,R u v→K (.tup [.c u,.c v]) ob):
  HCall P av f (args.map .c) ob nid K:=by
 refine⟨[],args.map .c,dE,_,h,jQ args,⟨List.nodup_nil,by simp⟩,(HV.renL_c _ _).symm,fun j o h=>by simp[dE]at h,fun r lob' hR _=>?_⟩;obtain⟨u,v,rfl,hv,rfl⟩:=hR;rw[kP hfree.all];exact hK u v hv
end Go.Hl
