/- The rules that a step of a walk uses, in bundles. Printed by gen/bund.py. By an AI agent. -/
import Derived.Test.YthedbjfipmkpiaaGreatDoorChecked
import Derived.Test.YthedbjfipmkpiaaGreatDoorPl31
import Derived.Test.YthedbjfipmkpiaaGreatDoorPl18e
set_option linter.unusedSimpArgs false
set_option linter.unusedVariables false
set_option linter.defProp false
namespace Go.Proofs
namespace YthedbjfipmkpiaaGreatDoor
open Go Go.Hl Go.Pl
theorem ty1 :aP Tryz.prog 1=some ⟨1,8,.func,.nilf⟩:=by kernel_rfl
theorem ty2 :aP Tryz.prog 2=some ⟨1,8,.int .i64,.int .i64 0⟩:=by kernel_rfl
theorem ty3 :aP Tryz.prog 3=some ⟨1,8,.int .i64,.int .i64 0⟩:=by kernel_rfl
theorem ty4 :aP Tryz.prog 4=some ⟨1,1,.bool,.bool false⟩:=by kernel_rfl
theorem ty5 :aP Tryz.prog 5=some ⟨1,1,.int .u8,.int .u8 0⟩:=by kernel_rfl
theorem ty6 :aP Tryz.prog 6=some ⟨1,1,.int .u8,.int .u8 0⟩:=by kernel_rfl
theorem ty7 :aP Tryz.prog 7=some ⟨4,24,.struct [(0,2),(1,3),(2,4),(3,6)],.agg [.int .i64 0,.int .i64 0,.bool false,.int .u8 0]⟩:=by kernel_rfl
theorem ty8 :aP Tryz.prog 8=some ⟨4,24,.struct [(0,2),(1,3),(2,4),(3,6)],.agg [.int .i64 0,.int .i64 0,.bool false,.int .u8 0]⟩:=by kernel_rfl
theorem ty9 :aP Tryz.prog 9=some ⟨1,16,.string,.str []⟩:=by kernel_rfl
theorem ty10 :aP Tryz.prog 10=some ⟨1,16,.string,.str []⟩:=by kernel_rfl
theorem ty11 :aP Tryz.prog 11=some ⟨1,16,.string,.str []⟩:=by kernel_rfl
theorem ty12 :aP Tryz.prog 12=some ⟨1,8,.int .u64,.int .u64 0⟩:=by kernel_rfl
theorem ty13 :aP Tryz.prog 13=some ⟨2,24,.struct [(0,9),(1,12)],.agg [.str [],.int .u64 0]⟩:=by kernel_rfl
theorem ty14 :aP Tryz.prog 14=some ⟨2,24,.struct [(0,9),(1,12)],.agg [.str [],.int .u64 0]⟩:=by kernel_rfl
theorem ty15 :aP Tryz.prog 15=some ⟨1,8,.pointer 215,.nilp⟩:=by kernel_rfl
theorem ty16 :aP Tryz.prog 16=some ⟨1,8,.pointer 218,.nilp⟩:=by kernel_rfl
theorem ty17 :aP Tryz.prog 17=some ⟨1,8,.pointer 226,.nilp⟩:=by kernel_rfl
theorem ty18 :aP Tryz.prog 18=some ⟨1,8,.struct [(0,17)],.agg [.nilp]⟩:=by kernel_rfl
theorem ty19 :aP Tryz.prog 19=some ⟨1,8,.struct [(0,17)],.agg [.nilp]⟩:=by kernel_rfl
theorem ty20 :aP Tryz.prog 20=some ⟨1,16,.iface true,.nili⟩:=by kernel_rfl
theorem ty21 :aP Tryz.prog 21=some ⟨1,4,.int .i32,.int .i32 0⟩:=by kernel_rfl
theorem ty22 :aP Tryz.prog 22=some ⟨1,24,.slice 3,.nils⟩:=by kernel_rfl
theorem ty23 :aP Tryz.prog 23=some ⟨1,24,.slice 64,.nils⟩:=by kernel_rfl
theorem ty24 :aP Tryz.prog 24=some ⟨1,8,.pointer 76,.nilp⟩:=by kernel_rfl
theorem ty25 :aP Tryz.prog 25=some ⟨1,8,.func,.nilf⟩:=by kernel_rfl
theorem ty26 :aP Tryz.prog 26=some ⟨1,24,.slice 89,.nils⟩:=by kernel_rfl
theorem ty27 :aP Tryz.prog 27=some ⟨1,8,.func,.nilf⟩:=by kernel_rfl
theorem ty28 :aP Tryz.prog 28=some ⟨1,8,.func,.nilf⟩:=by kernel_rfl
theorem ty29 :aP Tryz.prog 29=some ⟨1,8,.func,.nilf⟩:=by kernel_rfl
theorem ty30 :aP Tryz.prog 30=some ⟨1,24,.slice 41,.nils⟩:=by kernel_rfl
theorem ty32 :aP Tryz.prog 32=some ⟨1,8,.func,.nilf⟩:=by kernel_rfl
theorem ty33 :aP Tryz.prog 33=some ⟨1,8,.func,.nilf⟩:=by kernel_rfl
theorem ty34 :aP Tryz.prog 34=some ⟨1,8,.func,.nilf⟩:=by kernel_rfl
theorem ty35 :aP Tryz.prog 35=some ⟨1,8,.func,.nilf⟩:=by kernel_rfl
theorem ty36 :aP Tryz.prog 36=some ⟨1,8,.func,.nilf⟩:=by kernel_rfl
theorem ty37 :aP Tryz.prog 37=some ⟨1,24,.slice 4,.nils⟩:=by kernel_rfl
theorem ty38 :aP Tryz.prog 38=some ⟨1,8,.func,.nilf⟩:=by kernel_rfl
theorem ty39 :aP Tryz.prog 39=some ⟨1,24,.slice 44,.nils⟩:=by kernel_rfl
theorem ty40 :aP Tryz.prog 40=some ⟨4,64,.struct [(0,3),(1,3),(2,39),(3,22)],.agg [.int .i64 0,.int .i64 0,.nils,.nils]⟩:=by kernel_rfl
theorem ty41 :aP Tryz.prog 41=some ⟨4,64,.struct [(0,3),(1,3),(2,39),(3,22)],.agg [.int .i64 0,.int .i64 0,.nils,.nils]⟩:=by kernel_rfl
theorem ty42 :aP Tryz.prog 42=some ⟨1,8,.func,.nilf⟩:=by kernel_rfl
theorem ty43 :aP Tryz.prog 43=some ⟨32,32,.array 32 5,zd⟩:=by kernel_rfl
theorem ty44 :aP Tryz.prog 44=some ⟨32,32,.array 32 5,zd⟩:=by kernel_rfl
theorem ty45 :aP Tryz.prog 45=some ⟨34,64,.struct [(0,9),(1,9),(2,44)],.agg [.str [],.str [],zd]⟩:=by kernel_rfl
theorem ty46 :aP Tryz.prog 46=some ⟨34,64,.struct [(0,9),(1,9),(2,44)],.agg [.str [],.str [],zd]⟩:=by kernel_rfl
theorem ty47 :aP Tryz.prog 47=some ⟨34,64,.struct [(0,44),(32,9),(33,9)],.agg [zd,.str [],.str []]⟩:=by kernel_rfl
theorem ty48 :aP Tryz.prog 48=some ⟨34,64,.struct [(0,44),(32,9),(33,9)],.agg [zd,.str [],.str []]⟩:=by kernel_rfl
theorem ty49 :aP Tryz.prog 49=some ⟨103,200,.struct [(0,46),(34,2),(35,44),(67,3),(68,48),(102,30)],.agg [.agg [.str [],.str [],zd],.int .i64 0,zd,.int .i64 0,.agg [zd,.str [],.str []],.nils]⟩:=by kernel_rfl
theorem ty50 :aP Tryz.prog 50=some ⟨103,200,.struct [(0,46),(34,2),(35,44),(67,3),(68,48),(102,30)],.agg [.agg [.str [],.str [],zd],.int .i64 0,zd,.int .i64 0,.agg [zd,.str [],.str []],.nils]⟩:=by kernel_rfl
theorem ty51 :aP Tryz.prog 51=some ⟨1,8,.func,.nilf⟩:=by kernel_rfl
theorem ty52 :aP Tryz.prog 52=some ⟨1,24,.slice 5,.nils⟩:=by kernel_rfl
theorem ty53 :aP Tryz.prog 53=some ⟨1,8,.int .i64,.int .i64 0⟩:=by kernel_rfl
theorem ty55 :aP Tryz.prog 55=some ⟨1,8,.func,.nilf⟩:=by kernel_rfl
theorem ty56 :aP Tryz.prog 56=some ⟨1,8,.func,.nilf⟩:=by kernel_rfl
theorem ty57 :aP Tryz.prog 57=some ⟨1,8,.func,.nilf⟩:=by kernel_rfl
theorem ty58 :aP Tryz.prog 58=some ⟨1,8,.func,.nilf⟩:=by kernel_rfl
theorem ty60 :aP Tryz.prog 60=some ⟨1,8,.func,.nilf⟩:=by kernel_rfl
theorem ty61 :aP Tryz.prog 61=some ⟨1,8,.func,.nilf⟩:=by kernel_rfl
theorem ty62 :aP Tryz.prog 62=some ⟨1,8,.func,.nilf⟩:=by kernel_rfl
theorem ty63 :aP Tryz.prog 63=some ⟨3,40,.struct [(0,4),(1,39),(2,3)],.agg [.bool false,.nils,.int .i64 0]⟩:=by kernel_rfl
theorem ty64 :aP Tryz.prog 64=some ⟨3,40,.struct [(0,4),(1,39),(2,3)],.agg [.bool false,.nils,.int .i64 0]⟩:=by kernel_rfl
theorem ty65 :aP Tryz.prog 65=some ⟨1,8,.func,.nilf⟩:=by kernel_rfl
theorem ty66 :aP Tryz.prog 66=some ⟨1,8,.func,.nilf⟩:=by kernel_rfl
theorem ty67 :aP Tryz.prog 67=some ⟨1,24,.slice 71,.nils⟩:=by kernel_rfl
theorem ty69 :aP Tryz.prog 69=some ⟨1,8,.func,.nilf⟩:=by kernel_rfl
theorem ty70 :aP Tryz.prog 70=some ⟨1,8,.func,.nilf⟩:=by kernel_rfl
theorem ty71 :aP Tryz.prog 71=some ⟨1,24,.slice 9,.nils⟩:=by kernel_rfl
theorem ty72 :aP Tryz.prog 72=some ⟨1,8,.int .u64,.int .u64 0⟩:=by kernel_rfl
theorem ty73 :aP Tryz.prog 73=some ⟨1,8,.func,.nilf⟩:=by kernel_rfl
theorem ty74 :aP Tryz.prog 74=some ⟨1,8,.func,.nilf⟩:=by kernel_rfl
theorem ty75 :aP Tryz.prog 75=some ⟨2,32,.struct [(0,22),(1,3)],.agg [.nils,.int .i64 0]⟩:=by kernel_rfl
theorem ty76 :aP Tryz.prog 76=some ⟨2,32,.struct [(0,22),(1,3)],.agg [.nils,.int .i64 0]⟩:=by kernel_rfl
theorem ty77 :aP Tryz.prog 77=some ⟨1,8,.func,.nilf⟩:=by kernel_rfl
theorem ty78 :aP Tryz.prog 78=some ⟨1,8,.pointer 80,.nilp⟩:=by kernel_rfl
theorem ty79 :aP Tryz.prog 79=some ⟨4,96,.struct [(0,26),(1,22),(2,23),(3,30)],.agg [.nils,.nils,.nils,.nils]⟩:=by kernel_rfl
theorem ty80 :aP Tryz.prog 80=some ⟨4,96,.struct [(0,26),(1,22),(2,23),(3,30)],.agg [.nils,.nils,.nils,.nils]⟩:=by kernel_rfl
theorem ty82 :aP Tryz.prog 82=some ⟨1,8,.func,.nilf⟩:=by kernel_rfl
theorem ty83 :aP Tryz.prog 83=some ⟨1,8,.func,.nilf⟩:=by kernel_rfl
theorem ty84 :aP Tryz.prog 84=some ⟨1,8,.func,.nilf⟩:=by kernel_rfl
theorem ty85 :aP Tryz.prog 85=some ⟨1,8,.func,.nilf⟩:=by kernel_rfl
theorem ty86 :aP Tryz.prog 86=some ⟨4,40,.struct [(0,3),(1,2),(2,2),(3,9)],.agg [.int .i64 0,.int .i64 0,.int .i64 0,.str []]⟩:=by kernel_rfl
theorem ty87 :aP Tryz.prog 87=some ⟨4,40,.struct [(0,3),(1,2),(2,2),(3,9)],.agg [.int .i64 0,.int .i64 0,.int .i64 0,.str []]⟩:=by kernel_rfl
theorem ty88 :aP Tryz.prog 88=some ⟨7,64,.struct [(0,3),(1,3),(2,3),(3,87)],.agg [.int .i64 0,.int .i64 0,.int .i64 0,.agg [.int .i64 0,.int .i64 0,.int .i64 0,.str []]]⟩:=by kernel_rfl
theorem ty89 :aP Tryz.prog 89=some ⟨7,64,.struct [(0,3),(1,3),(2,3),(3,87)],.agg [.int .i64 0,.int .i64 0,.int .i64 0,.agg [.int .i64 0,.int .i64 0,.int .i64 0,.str []]]⟩:=by kernel_rfl
theorem ty90 :aP Tryz.prog 90=some ⟨1,8,.func,.nilf⟩:=by kernel_rfl
theorem ty91 :aP Tryz.prog 91=some ⟨1,8,.func,.nilf⟩:=by kernel_rfl
theorem ty92 :aP Tryz.prog 92=some ⟨1,8,.func,.nilf⟩:=by kernel_rfl
theorem ty93 :aP Tryz.prog 93=some ⟨1,8,.func,.nilf⟩:=by kernel_rfl
theorem ty95 :aP Tryz.prog 95=some ⟨1,8,.func,.nilf⟩:=by kernel_rfl
theorem ty96 :aP Tryz.prog 96=some ⟨1,8,.func,.nilf⟩:=by kernel_rfl
theorem ty97 :aP Tryz.prog 97=some ⟨1,8,.func,.nilf⟩:=by kernel_rfl
theorem ty99 :aP Tryz.prog 99=some ⟨1,8,.func,.nilf⟩:=by kernel_rfl
theorem ty100 :aP Tryz.prog 100=some ⟨1,8,.func,.nilf⟩:=by kernel_rfl
theorem ty101 :aP Tryz.prog 101=some ⟨1,8,.func,.nilf⟩:=by kernel_rfl
theorem ty102 :aP Tryz.prog 102=some ⟨1,8,.func,.nilf⟩:=by kernel_rfl
theorem ty103 :aP Tryz.prog 103=some ⟨1,8,.func,.nilf⟩:=by kernel_rfl
theorem ty104 :aP Tryz.prog 104=some ⟨1,8,.func,.nilf⟩:=by kernel_rfl
theorem ty105 :aP Tryz.prog 105=some ⟨1,8,.func,.nilf⟩:=by kernel_rfl
theorem ty106 :aP Tryz.prog 106=some ⟨1,8,.func,.nilf⟩:=by kernel_rfl
theorem ty107 :aP Tryz.prog 107=some ⟨1,8,.func,.nilf⟩:=by kernel_rfl
theorem ty108 :aP Tryz.prog 108=some ⟨1,8,.func,.nilf⟩:=by kernel_rfl
theorem ty109 :aP Tryz.prog 109=some ⟨1,8,.func,.nilf⟩:=by kernel_rfl
theorem ty111 :aP Tryz.prog 111=some ⟨1,8,.func,.nilf⟩:=by kernel_rfl
theorem ty112 :aP Tryz.prog 112=some ⟨1,8,.func,.nilf⟩:=by kernel_rfl
theorem ty113 :aP Tryz.prog 113=some ⟨1,8,.func,.nilf⟩:=by kernel_rfl
theorem ty114 :aP Tryz.prog 114=some ⟨1,8,.func,.nilf⟩:=by kernel_rfl
theorem ty115 :aP Tryz.prog 115=some ⟨1,8,.func,.nilf⟩:=by kernel_rfl
theorem ty117 :aP Tryz.prog 117=some ⟨1,8,.func,.nilf⟩:=by kernel_rfl
theorem ty119 :aP Tryz.prog 119=some ⟨1,8,.func,.nilf⟩:=by kernel_rfl
theorem ty120 :aP Tryz.prog 120=some ⟨1,8,.func,.nilf⟩:=by kernel_rfl
theorem ty121 :aP Tryz.prog 121=some ⟨1,8,.func,.nilf⟩:=by kernel_rfl
theorem ty122 :aP Tryz.prog 122=some ⟨1,8,.func,.nilf⟩:=by kernel_rfl
theorem ty123 :aP Tryz.prog 123=some ⟨1,8,.func,.nilf⟩:=by kernel_rfl
theorem ty124 :aP Tryz.prog 124=some ⟨1,8,.func,.nilf⟩:=by kernel_rfl
theorem ty125 :aP Tryz.prog 125=some ⟨1,8,.func,.nilf⟩:=by kernel_rfl
theorem ty126 :aP Tryz.prog 126=some ⟨1,8,.func,.nilf⟩:=by kernel_rfl
theorem ty127 :aP Tryz.prog 127=some ⟨1,8,.func,.nilf⟩:=by kernel_rfl
theorem ty128 :aP Tryz.prog 128=some ⟨1,8,.func,.nilf⟩:=by kernel_rfl
theorem ty129 :aP Tryz.prog 129=some ⟨1,8,.func,.nilf⟩:=by kernel_rfl
theorem ty130 :aP Tryz.prog 130=some ⟨1,8,.map 3 9,.nilm⟩:=by kernel_rfl
theorem ty131 :aP Tryz.prog 131=some ⟨1,8,.func,.nilf⟩:=by kernel_rfl
theorem ty132 :aP Tryz.prog 132=some ⟨1,8,.func,.nilf⟩:=by kernel_rfl
theorem ty133 :aP Tryz.prog 133=some ⟨1,8,.func,.nilf⟩:=by kernel_rfl
theorem ty134 :aP Tryz.prog 134=some ⟨1,8,.func,.nilf⟩:=by kernel_rfl
theorem ty135 :aP Tryz.prog 135=some ⟨1,8,.int .u64,.int .u64 0⟩:=by kernel_rfl
theorem ty136 :aP Tryz.prog 136=some ⟨1,8,.func,.nilf⟩:=by kernel_rfl
theorem ty137 :aP Tryz.prog 137=some ⟨1,8,.func,.nilf⟩:=by kernel_rfl
theorem ty138 :aP Tryz.prog 138=some ⟨1,8,.func,.nilf⟩:=by kernel_rfl
theorem ty140 :aP Tryz.prog 140=some ⟨1,8,.func,.nilf⟩:=by kernel_rfl
theorem ty141 :aP Tryz.prog 141=some ⟨1,8,.func,.nilf⟩:=by kernel_rfl
theorem ty142 :aP Tryz.prog 142=some ⟨1,8,.func,.nilf⟩:=by kernel_rfl
theorem ty143 :aP Tryz.prog 143=some ⟨1,8,.func,.nilf⟩:=by kernel_rfl
theorem ty145 :aP Tryz.prog 145=some ⟨1,8,.func,.nilf⟩:=by kernel_rfl
theorem ty146 :aP Tryz.prog 146=some ⟨1,8,.func,.nilf⟩:=by kernel_rfl
theorem ty148 :aP Tryz.prog 148=some ⟨1,8,.func,.nilf⟩:=by kernel_rfl
theorem ty149 :aP Tryz.prog 149=some ⟨1,8,.func,.nilf⟩:=by kernel_rfl
theorem ty150 :aP Tryz.prog 150=some ⟨1,8,.func,.nilf⟩:=by kernel_rfl
theorem ty151 :aP Tryz.prog 151=some ⟨1,8,.func,.nilf⟩:=by kernel_rfl
theorem ty152 :aP Tryz.prog 152=some ⟨1,8,.func,.nilf⟩:=by kernel_rfl
theorem ty153 :aP Tryz.prog 153=some ⟨1,8,.func,.nilf⟩:=by kernel_rfl
theorem ty154 :aP Tryz.prog 154=some ⟨1,8,.pointer 156,.nilp⟩:=by kernel_rfl
theorem ty155 :aP Tryz.prog 155=some ⟨2,32,.struct [(0,154),(1,52)],.agg [.nilp,.nils]⟩:=by kernel_rfl
theorem ty156 :aP Tryz.prog 156=some ⟨2,32,.struct [(0,154),(1,52)],.agg [.nilp,.nils]⟩:=by kernel_rfl
theorem ty157 :aP Tryz.prog 157=some ⟨1,16,.iface false,.nili⟩:=by kernel_rfl
theorem ty158 :aP Tryz.prog 158=some ⟨1,16,.iface false,.nili⟩:=by kernel_rfl
theorem ty159 :aP Tryz.prog 159=some ⟨1,8,.func,.nilf⟩:=by kernel_rfl
theorem ty160 :aP Tryz.prog 160=some ⟨1,8,.func,.nilf⟩:=by kernel_rfl
theorem ty161 :aP Tryz.prog 161=some ⟨1,8,.int .i64,.int .i64 0⟩:=by kernel_rfl
theorem ty163 :aP Tryz.prog 163=some ⟨1,8,.func,.nilf⟩:=by kernel_rfl
theorem ty164 :aP Tryz.prog 164=some ⟨1,8,.func,.nilf⟩:=by kernel_rfl
theorem ty165 :aP Tryz.prog 165=some ⟨1,8,.func,.nilf⟩:=by kernel_rfl
theorem ty166 :aP Tryz.prog 166=some ⟨1,8,.func,.nilf⟩:=by kernel_rfl
theorem ty167 :aP Tryz.prog 167=some ⟨1,8,.func,.nilf⟩:=by kernel_rfl
theorem ty168 :aP Tryz.prog 168=some ⟨1,4,.int .u32,.int .u32 0⟩:=by kernel_rfl
theorem ty169 :aP Tryz.prog 169=some ⟨1,8,.func,.nilf⟩:=by kernel_rfl
theorem ty170 :aP Tryz.prog 170=some ⟨1,8,.func,.nilf⟩:=by kernel_rfl
theorem ty171 :aP Tryz.prog 171=some ⟨1,8,.func,.nilf⟩:=by kernel_rfl
theorem ty173 :aP Tryz.prog 173=some ⟨1,8,.func,.nilf⟩:=by kernel_rfl
theorem ty174 :aP Tryz.prog 174=some ⟨1,8,.func,.nilf⟩:=by kernel_rfl
theorem ty175 :aP Tryz.prog 175=some ⟨1,8,.func,.nilf⟩:=by kernel_rfl
theorem ty176 :aP Tryz.prog 176=some ⟨1,8,.func,.nilf⟩:=by kernel_rfl
theorem ty177 :aP Tryz.prog 177=some ⟨1,8,.func,.nilf⟩:=by kernel_rfl
theorem ty178 :aP Tryz.prog 178=some ⟨1,8,.func,.nilf⟩:=by kernel_rfl
theorem ty179 :aP Tryz.prog 179=some ⟨1,8,.pointer 5,.nilp⟩:=by kernel_rfl
theorem ty180 :aP Tryz.prog 180=some ⟨24,24,.array 24 5,.agg [.int .u8 0,.int .u8 0,.int .u8 0,.int .u8 0,.int .u8 0,.int .u8 0,.int .u8 0,.int .u8 0,.int .u8 0,.int .u8 0,.int .u8 0,.int .u8 0,.int .u8 0,.int .u8 0,.int .u8 0,.int .u8 0,.int .u8 0,.int .u8 0,.int .u8 0,.int .u8 0,.int .u8 0,.int .u8 0,.int .u8 0,.int .u8 0]⟩:=by kernel_rfl
theorem ty181 :aP Tryz.prog 181=some ⟨1,8,.func,.nilf⟩:=by kernel_rfl
theorem ty183 :aP Tryz.prog 183=some ⟨1,8,.func,.nilf⟩:=by kernel_rfl
theorem ty184 :aP Tryz.prog 184=some ⟨1,8,.int .u64,.int .u64 0⟩:=by kernel_rfl
theorem ty185 :aP Tryz.prog 185=some ⟨1,8,.func,.nilf⟩:=by kernel_rfl
theorem ty186 :aP Tryz.prog 186=some ⟨1,8,.func,.nilf⟩:=by kernel_rfl
theorem ty187 :aP Tryz.prog 187=some ⟨1,8,.func,.nilf⟩:=by kernel_rfl
theorem ty188 :aP Tryz.prog 188=some ⟨1,8,.pointer 3,.nilp⟩:=by kernel_rfl
theorem ty189 :aP Tryz.prog 189=some ⟨1,8,.func,.nilf⟩:=by kernel_rfl
theorem ty190 :aP Tryz.prog 190=some ⟨1,8,.func,.nilf⟩:=by kernel_rfl
theorem ty192 :aP Tryz.prog 192=some ⟨1,8,.func,.nilf⟩:=by kernel_rfl
theorem ty193 :aP Tryz.prog 193=some ⟨1,8,.func,.nilf⟩:=by kernel_rfl
theorem ty194 :aP Tryz.prog 194=some ⟨1,8,.func,.nilf⟩:=by kernel_rfl
theorem ty195 :aP Tryz.prog 195=some ⟨1,8,.func,.nilf⟩:=by kernel_rfl
theorem ty197 :aP Tryz.prog 197=some ⟨1,8,.func,.nilf⟩:=by kernel_rfl
theorem ty198 :aP Tryz.prog 198=some ⟨1,8,.func,.nilf⟩:=by kernel_rfl
theorem ty199 :aP Tryz.prog 199=some ⟨20,160,.array 20 135,.agg [.int .u64 0,.int .u64 0,.int .u64 0,.int .u64 0,.int .u64 0,.int .u64 0,.int .u64 0,.int .u64 0,.int .u64 0,.int .u64 0,.int .u64 0,.int .u64 0,.int .u64 0,.int .u64 0,.int .u64 0,.int .u64 0,.int .u64 0,.int .u64 0,.int .u64 0,.int .u64 0]⟩:=by kernel_rfl
theorem ty200 :aP Tryz.prog 200=some ⟨65,65,.array 65 5,.agg [.int .u8 0,.int .u8 0,.int .u8 0,.int .u8 0,.int .u8 0,.int .u8 0,.int .u8 0,.int .u8 0,.int .u8 0,.int .u8 0,.int .u8 0,.int .u8 0,.int .u8 0,.int .u8 0,.int .u8 0,.int .u8 0,.int .u8 0,.int .u8 0,.int .u8 0,.int .u8 0,.int .u8 0,.int .u8 0,.int .u8 0,.int .u8 0,.int .u8 0,.int .u8 0,.int .u8 0,.int .u8 0,.int .u8 0,.int .u8 0,.int .u8 0,.int .u8 0,.int .u8 0,.int .u8 0,.int .u8 0,.int .u8 0,.int .u8 0,.int .u8 0,.int .u8 0,.int .u8 0,.int .u8 0,.int .u8 0,.int .u8 0,.int .u8 0,.int .u8 0,.int .u8 0,.int .u8 0,.int .u8 0,.int .u8 0,.int .u8 0,.int .u8 0,.int .u8 0,.int .u8 0,.int .u8 0,.int .u8 0,.int .u8 0,.int .u8 0,.int .u8 0,.int .u8 0,.int .u8 0,.int .u8 0,.int .u8 0,.int .u8 0,.int .u8 0,.int .u8 0]⟩:=by kernel_rfl
theorem ty201 :aP Tryz.prog 201=some ⟨1,8,.func,.nilf⟩:=by kernel_rfl
theorem ty202 :aP Tryz.prog 202=some ⟨1,8,.pointer 184,.nilp⟩:=by kernel_rfl
theorem ty204 :aP Tryz.prog 204=some ⟨1,8,.func,.nilf⟩:=by kernel_rfl
theorem ty206 :aP Tryz.prog 206=some ⟨1,8,.func,.nilf⟩:=by kernel_rfl
theorem ty207 :aP Tryz.prog 207=some ⟨1,8,.func,.nilf⟩:=by kernel_rfl
theorem ty209 :aP Tryz.prog 209=some ⟨2,2,.struct [(0,5),(1,5)],.agg [.int .u8 0,.int .u8 0]⟩:=by kernel_rfl
theorem ty210 :aP Tryz.prog 210=some ⟨2,2,.struct [(0,5),(1,5)],.agg [.int .u8 0,.int .u8 0]⟩:=by kernel_rfl
theorem ty211 :aP Tryz.prog 211=some ⟨32,32,.array 16 210,.agg [.agg [.int .u8 0,.int .u8 0],.agg [.int .u8 0,.int .u8 0],.agg [.int .u8 0,.int .u8 0],.agg [.int .u8 0,.int .u8 0],.agg [.int .u8 0,.int .u8 0],.agg [.int .u8 0,.int .u8 0],.agg [.int .u8 0,.int .u8 0],.agg [.int .u8 0,.int .u8 0],.agg [.int .u8 0,.int .u8 0],.agg [.int .u8 0,.int .u8 0],.agg [.int .u8 0,.int .u8 0],.agg [.int .u8 0,.int .u8 0],.agg [.int .u8 0,.int .u8 0],.agg [.int .u8 0,.int .u8 0],.agg [.int .u8 0,.int .u8 0],.agg [.int .u8 0,.int .u8 0]]⟩:=by kernel_rfl
theorem ty212 :aP Tryz.prog 212=some ⟨1,8,.func,.nilf⟩:=by kernel_rfl
theorem ty213 :aP Tryz.prog 213=some ⟨64,64,.array 64 5,us (uz 64)⟩:=by kernel_rfl
theorem ty214 :aP Tryz.prog 214=some ⟨4,40,.struct [(0,17),(1,17),(2,17),(3,9)],.agg [.nilp,.nilp,.nilp,.str []]⟩:=by kernel_rfl
theorem ty215 :aP Tryz.prog 215=some ⟨4,40,.struct [(0,17),(1,17),(2,17),(3,9)],.agg [.nilp,.nilp,.nilp,.str []]⟩:=by kernel_rfl
theorem ty219 :aP Tryz.prog 219=some ⟨1,8,.func,.nilf⟩:=by kernel_rfl
theorem ty220 :aP Tryz.prog 220=some ⟨1,1,.int .u8,.int .u8 0⟩:=by kernel_rfl
theorem ty221 :aP Tryz.prog 221=some ⟨1,1,.int .u8,.int .u8 0⟩:=by kernel_rfl
theorem ty222 :aP Tryz.prog 222=some ⟨1,8,.func,.nilf⟩:=by kernel_rfl
theorem ty223 :aP Tryz.prog 223=some ⟨1,4,.int .i32,.int .i32 0⟩:=by kernel_rfl
theorem ty224 :aP Tryz.prog 224=some ⟨1,4,.int .i32,.int .i32 0⟩:=by kernel_rfl
theorem ty225 :aP Tryz.prog 225=some ⟨11,48,.struct [(0,12),(1,12),(2,168),(3,220),(4,5),(5,5),(6,221),(7,222),(8,179),(9,223),(10,224)],.agg [.int .u64 0,.int .u64 0,.int .u32 0,.int .u8 0,.int .u8 0,.int .u8 0,.int .u8 0,.nilf,.nilp,.int .i32 0,.int .i32 0]⟩:=by kernel_rfl
theorem ty226 :aP Tryz.prog 226=some ⟨11,48,.struct [(0,12),(1,12),(2,168),(3,220),(4,5),(5,5),(6,221),(7,222),(8,179),(9,223),(10,224)],.agg [.int .u64 0,.int .u64 0,.int .u32 0,.int .u8 0,.int .u8 0,.int .u8 0,.int .u8 0,.nilf,.nilp,.int .i32 0,.int .i32 0]⟩:=by kernel_rfl
theorem eqdg43 (x y:Dig)(K:CV→Prop):jB Tryz.prog .eql 43 (.c (dg x)) (.c (dg y)) K=K (.bool (x==y)):=(wX (by kernel_rfl) ty43 ty5 (by kernel_rfl) x y K).1
theorem nedg43 (x y:Dig)(K:CV→Prop):jB Tryz.prog .neq 43 (.c (dg x)) (.c (dg y)) K=K (.bool (!(x==y))):=(wX (by kernel_rfl) ty43 ty5 (by kernel_rfl) x y K).2
theorem eqdg44 (x y:Dig)(K:CV→Prop):jB Tryz.prog .eql 44 (.c (dg x)) (.c (dg y)) K=K (.bool (x==y)):=(wX (by kernel_rfl) ty44 ty5 (by kernel_rfl) x y K).1
theorem nedg44 (x y:Dig)(K:CV→Prop):jB Tryz.prog .neq 44 (.c (dg x)) (.c (dg y)) K=K (.bool (!(x==y))):=(wX (by kernel_rfl) ty44 ty5 (by kernel_rfl) x y K).2
theorem mixed :Tryz.prog.follows .mixedOrders=true:=by kernel_rfl
end YthedbjfipmkpiaaGreatDoor
end Go.Proofs
namespace Go.Hl
open Go
section
variable {P:Program}{av:List Nat}{f:FuncId}{ob:Ob}{nid id n:Nat}{K:HV→Ob→Prop}{T e:TypeId}{sz:Nat}{v:CV}{l:List CV}
end
def eU (P:Program)(f:FuncId)(args:List CV)(R:CV→CV→Prop):Prop:=
 HFn P f (args.map .c) 0 cZ (fun r ob'=> ∃u v,r= .tup [.c u,.c v]∧R u v∧ob'=cZ)
variable {r:HV}{ob:Ob}
theorem aR {R:CV→CV→Prop}(cl:List Nat)(u v:CV)(h:(r.close ob cl).norm= .tup [.c u,.c v])(hR:R u v):iJ 0 r ob (fun r ob'=> ∃u v,r= .tup [.c u,.c v]∧R u v∧ob'=cZ):=
 ⟨cl,id,.tup [.c u,.c v],cZ,⟨u,v,rfl,hR,rfl⟩,by rw[h];rfl,fun _ h=>by omega,fun _ _ _ _ h=>h,by simp[HV.men,HV.menL],fun j o h=>by simp[cZ]at h⟩
variable {K:HV→Ob→Prop}{nid:Nat}{f:FuncId}{av:List Nat}{P:Program}
theorem iK {args:List CV}{R:CV→CV→Prop}(h:eU P f args R)(hfree:Free4 ob nid)(hK: ∀u v,R u v→K (.tup [.c u,.c v]) ob):
  HCall P av f (args.map .c) ob nid K:=by
 refine⟨[],args.map .c,cZ,_,h,dT args,⟨List.nodup_nil,by simp⟩,(HV.renL_c _ _).symm,fun j o h=>by simp[cZ]at h,fun r lob' hR _=>?_⟩;obtain⟨u,v,rfl,hv,rfl⟩:=hR;rw[oA hfree.all];exact hK u v hv
def cP5 (P:Program)(f:FuncId)(e:TypeId)(sz:Nat)(l:List CV)(rest:List HV)(R:List CV→Prop):Prop:=
 HFn P f (.own 0 l.length::rest) 1 (fob [(0,.row e sz l)]) (fun r ob'=> ∃l',r= .own 1 l'.length∧ob'=fob [(1,.row e sz l')]∧R l')
def cP6 (e:TypeId)(sz:Nat)(R:List CV→Prop)(r:HV)(ob':Ob):Prop:=
 ∃(l':List CV) (m:Nat),(r= .osl 0 l'.length 0 sz m∧0<l'.length∨r= .own 0 l'.length∧m=l'.length)∧m≤l'.length∧ob'=fob [(0,.row e sz l')]∧R (l'.take m)
variable {n sz:Nat}{e:TypeId}
theorem bU3 {R:List CV→Prop}{m:Nat}(l':List CV)(h:ob 0=some (.row e sz l'))(hn:n=l'.length)(h0:0<l'.length)(hm:m≤l'.length)(hR:R (l'.take m)):iJ 1 (.osl 0 n 0 sz m) ob (cP6 e sz R):=by
 subst hn;refine⟨[],id,.osl 0 l'.length 0 sz m,fob [(0,.row e sz l')],⟨l',m,.inl ⟨rfl,h0⟩,hm,rfl,hR⟩,by simp only[HV.close,List.contains_nil,Bool.false_eq_true,if_false,HV.norm,HV.toC,HV.ren,id],fun _ _=>rfl,fun _ _ _ _ h=>h,by simp[HV.men],fun j o ho=>?_⟩;simp only[fob_at,fob_nil]at ho;split at ho
 · rename_i e0;subst e0;cases ho;exact⟨by omega,trivial,by simp,.row e sz l',h,rfl⟩
 grind
theorem sG {R:List CV→Prop}(l':List CV)(h:ob 0=some (.row e sz l'))(hn:n=l'.length)(hR:R l'):iJ 1 (.own 0 n) ob (cP6 e sz R):=by
 subst hn;refine⟨[],id,.own 0 l'.length,fob [(0,.row e sz l')],⟨l',l'.length,.inr ⟨rfl,rfl⟩,Nat.le_refl _,rfl,by grind⟩,by simp only[HV.close,List.contains_nil,Bool.false_eq_true,if_false,HV.norm,HV.toC,HV.ren,id],fun _ _=>rfl,fun _ _ _ _ h=>h,by simp[HV.men],fun j o ho=>?_⟩;simp only[fob_at,fob_nil]at ho;split at ho
 · rename_i e0;subst e0;cases ho;exact⟨by omega,trivial,by simp,.row e sz l',h,rfl⟩
 grind
variable {rest:List HV}
theorem cG1 {l:List CV}{R:List CV→Prop}
  (h:HFn P f (.own 0 l.length::rest) 1 (fob [(0,.row e sz l)]) (cP6 e sz R)):cP5 P f e sz l rest R:=by
 refine⟨h.1,fun w ρ X xs hS hA hX=>(h.2 w ρ X xs hS hA hX).mono ?_⟩;rintro ex w' ⟨r,ob',ρ',x,rfl,⟨l',m,hr,hm,rfl,hR⟩,hg⟩;obtain⟨h0,ys,hρ,hL,hcs,how⟩:=hg.s.objs 0 (.row e sz l') rfl;have hh:hlen h0=l'.length:=ownsRow_size how;have hx:(x=h0∧m=l'.length)∨ ∃g cap,h0= .slice (some ⟨g,0,none⟩) l'.length cap∧x= .slice (some ⟨g,0,none⟩) m cap:=by
  have hv:=hg.v;rcases hr with⟨rfl,hpos⟩|⟨rfl,rfl⟩
  ·
   right;rcases how.2 with⟨_,hz⟩|⟨g,cap,cur,rfl,_,hgc,hcap,_⟩
   · omega
   ·
    obtain⟨hv1,hv2⟩:=hv;have hag:Value.isAgg' x=false:=by rw[←hv2];rfl
    rw[cells_single hag]at hv1;simp only[RepH,List.cons.injEq,and_true]at hv1;obtain⟨y,rfl,_,hy,_⟩:=hv1;have:=(hy _ hρ).2 hh g cap rfl;refine⟨g,cap,rfl,?_⟩;rw[this];simp
  ·
   left;obtain⟨hv1,hv2⟩:=hv;have hag:Value.isAgg' x=false:=by rw[←hv2];rfl
   rw[cells_single hag]at hv1;simp only[RepH,List.cons.injEq,and_true]at hv1;obtain⟨y,rfl,_,hy⟩:=hv1;exact⟨(hy _ hρ).2 hh,rfl⟩
 have hlm:(l'.take m).length=m:=by simp;omega
 have hrow:w'.ownsRow 0 e sz x (l'.take m).length (ys.take (m*sz)):=by
  rw[hlm];rcases hx with⟨rfl,rfl⟩|⟨g,cap,rfl,rfl⟩
  · rw[List.take_of_length_le (by rw[how.1];grind)];exact how
  ·
   refine⟨by rw[List.length_take,how.1];simp_all,?_⟩;rcases how.2 with⟨hn,_⟩|⟨g',cap',cur,he,hb,hgc,hcap,hmax,hsz,htk⟩
   · cases hn
   · cases he;exact .inr ⟨g,cap,cur,rfl,hb,hgc,by omega,hmax,hsz,by rw[←htk,List.take_take,Nat.min_eq_left (Nat.mul_le_mul_right _ hm)]⟩
 have hown1: ∀b,(Loc.hdr x).has b→(Loc.hdr h0).has b:=fun b hb=>by
  rcases hx with⟨rfl,_⟩|⟨g,cap,rfl,rfl⟩
  · grind
  · exact hb
 have hx1:x.oneCell'=true:=by
  rcases hx with⟨rfl,_⟩|⟨g,cap,_,rfl⟩
  · rcases how.2 with⟨rfl,_⟩|⟨g',cap',cur,rfl,_⟩<;>rfl
  · rfl
 have hxa:Value.isAgg' x=false:=by
  rcases hx with⟨rfl,_⟩|⟨g,cap,_,rfl⟩
  · rcases how.2 with⟨rfl,_⟩|⟨g',cap',cur,rfl,_⟩<;>rfl
  · rfl
 have hxl:hlen x=m:=by
  rcases hx with⟨rfl,rfl⟩|⟨g,cap,_,rfl⟩
  · exact hh
  · rfl
 let ρn:Env:=fun i=>if i=1 then some (.hdr x)else none
 have hn1: ∀i L,ρn i=some L→i=1∧L= .hdr x:=fun i L hi=>by grind
 have hownn: ∀b,Own ρn b→Own ρ' b:=fun b ⟨i,L,h1,h2⟩=>by
  obtain⟨rfl,rfl⟩:=hn1 i L h1;exact⟨0,_,hρ,hown1 b h2⟩
 have hst:Stay w' (Owned ρ' X) w' (Owned ρn X):=Stay.same (fun b _ hb=>hb.imp (fun x=>x) (hownn b));have hcs': ∀v∈l'.take m,v.cells=sz:=fun v hv=>hcs v (List.mem_of_mem_take hv);refine⟨.own 1 (l'.take m).length,fob [(1,.row e sz (l'.take m))],ρn,x,rfl,⟨l'.take m,rfl,rfl,hR⟩,?_,⟨fun i o ho=>?_,fun i hi=>?_,fun i j L L' b h1 h2 _ _=>?_,fun i L b h1 h2=>?_⟩,by simp[HV.men],fun i o ho=>?_,⟨hg.stay.block,fun b hb=>hg.stay.own b (hownn b hb),hg.stay.size,hg.stay.os,hg.stay.tape,hg.stay.output⟩,fun i L hi hL=>?_⟩
 · refine⟨?_,by rw[hxa];rfl⟩;rw[cells_single hxa];simp only[RepH];refine⟨x,rfl,hx1,fun h hh'=>?_⟩;have:=(hn1 1 _ hh').2;cases this;rw[hlm];exact⟨by omega,fun _=>rfl⟩
 ·
  simp only[fob_at,fob_nil]at ho;split at ho
  · rename_i e0;subst e0;cases ho;exact⟨x,ys.take (m*sz),by grind,(fM m hL hcs).stay hst,hcs',hrow⟩
  · cases ho
 ·
  simp only[fob_at,fob_nil]at hi;simp only[ρn];split at hi
  · cases hi
  · rename_i h1;rw[if_neg h1]
 · rw[(hn1 i L h1).1,(hn1 j L' h2).1]
 · obtain⟨rfl,rfl⟩:=hn1 i L h1;exact hg.s.xb 0 _ b hρ (hown1 b h2)
 ·
  simp only[fob_at,fob_nil]at ho;split at ho
  · rename_i e0;subst e0;cases ho;exact⟨by omega,trivial⟩
  · cases ho
 · have:=(hn1 i L hL).1;omega
theorem aD2 {n:Nat}{l:List CV}(hm:HV.menL (· <0) rest):LocOk 1 (.own 0 n::rest) (fob [(0,.row e sz l)]):=by
 have:=yE e sz n l;refine⟨this.all,this.none,?_⟩;grind[HV.menL,HV.men,HV.menL_mono]
section
variable {P:Program}{av:List Nat}{f:FuncId}{ob:Ob}{nid id n:Nat}{K:HV→Ob→Prop}{T e:TypeId}{sz:Nat}{v:CV}{l:List CV}{rest:List HV}
theorem bU4 {R:List CV→Prop}(h:cP5 P f e sz l rest R)(hm:HV.menL (· <0) rest)(hr: ∀m,HV.renL m rest=rest)(hid:ob id=some (.row e sz l))(hn:n=l.length)(hav:id∉av)(hfree:Free4 ob nid)
  (hK: ∀l',R l'→K (.own nid l'.length) (upd (bT ob id) nid (some (.row e sz l')))):HCall P av f (.own id n::rest) ob nid K:=by
 have h0:sub [id] nid 0=id:=rfl;have h1:sub [id] nid 1=nid:=by simp[sub]
 subst hn;refine⟨[id],_,_,_,h,aD2 hm,⟨by simp,by grind⟩,by grind[HV.renL,HV.ren],fun j o hj=>?_,fun r lob' hR _=>?_⟩
 · grind[fob_at,fob_nil,HO.ren]
 ·
  obtain⟨l',rfl,rfl,hR⟩:=hR;have e2:cH ob [id] nid (fob [(1,.row e sz l')])=upd (bT ob id) nid (some (.row e sz l')):=by
   funext i;by_cases e0:i=id
   ·
    subst e0;have hne:i≠nid:=by rintro rfl;rw[hfree.1]at hid;cases hid
    simp_all[aY,cH,List.findIdx?_cons,beq_self_eq_true,if_true,bT,fob_at,fob_nil]
   ·
    have e':(id==i)=false:=by simp;exact fun h=>e0 h.symm
    simp only[cH,List.findIdx?_cons,e',List.findIdx?_nil,Option.map_none];simp only[Bool.false_eq_true,if_false];split
    ·
     rename_i hr;by_cases hin:i=nid
     · grind[aT,fob_at,HO.ren]
     ·
      have h3:[id].length+(i-nid)≠1:=by simp;omega
      rw[fob_at,if_neg h3,fob_nil,aY _ _ hin];simp only[bT,if_neg e0];exact(hfree.all i hr.1 hr.2).symm
    ·
     rename_i hr;have hin:i≠nid:=by omega
     simp_all[aY,bT,if_neg]
  grind[HV.ren]
end
def bU5 (P:Program)(f:FuncId)(args:List CV)(R:CV→CV→CV→Prop):Prop:=
 HFn P f (args.map .c) 0 cZ (fun r ob'=> ∃u v x,r= .tup [.c u,.c v,.c x]∧R u v x∧ob'=cZ)
theorem yI {R:CV→CV→CV→Prop}(cl:List Nat)(u v x:CV)(h:(r.close ob cl).norm= .tup [.c u,.c v,.c x])(hR:R u v x):iJ 0 r ob (fun r ob'=> ∃u v x,r= .tup [.c u,.c v,.c x]∧R u v x∧ob'=cZ):=
 ⟨cl,id,.tup [.c u,.c v,.c x],cZ,⟨u,v,x,rfl,hR,rfl⟩,by rw[h];rfl,fun _ h=>by omega,fun _ _ _ _ h=>h,by simp[HV.men,HV.menL],fun j o h=>by simp[cZ]at h⟩
theorem aY6 {args:List CV}{R:CV→CV→CV→Prop}(h:bU5 P f args R)(hfree:Free4 ob nid)(hK: ∀u v x,R u v x→K (.tup [.c u,.c v,.c x]) ob):
  HCall P av f (args.map .c) ob nid K:=by
 refine⟨[],args.map .c,cZ,_,h,dT args,⟨List.nodup_nil,by simp⟩,(HV.renL_c _ _).symm,fun j o h=>by simp[cZ]at h,fun r lob' hR _=>?_⟩;obtain⟨u,v,x,rfl,hv,rfl⟩:=hR;rw[oA hfree.all];exact hK u v x hv
def lst (os:List HO):Ob:=fun j=>os[j]?
theorem yJ (o:HO)(os:List HO)(j:Nat):lst (o::os) (j+1)=lst os j:=by simp[lst]
def HGe (P:Program)(f:FuncId)(args:List HV)(os:List HO)(R:HV→List HO→Prop):Prop:=
 HFn P f args os.length (lst os) (fun r ob'=> ∃os',ob'=lst os'∧(os.length≤os'.length∧os'.length≤os.length+4)∧R r os')
def kL (m:Nat→Nat):Ob→Nat→List HO→Ob
 |ob,_,[]=>ob
 |ob,j,o::os=>kL m (upd ob (m j) (some (o.ren m))) (j+1) os
theorem pF (m:Nat→Nat)(i:Nat): ∀(os:List HO) (ob:Ob) (j:Nat),(∀t,t<os.length→m (j+t)≠i)→kL m ob j os i=ob i
 |[],_,_,_=>rfl
 |o::os,ob,j,h=>by
  rw[kL,pF m i os _ (j+1) fun t ht=>by have:=h (t+1) (by grind);grind];exact aY _ _ fun e=>h 0 (by simp) e.symm
theorem aP9 (m:Nat→Nat){N:Nat}(inj: ∀a b,a<N→b<N→m a=m b→a=b): ∀(os:List HO) (ob:Ob) (j t:Nat) (ht:t<os.length),j+os.length≤N→kL m ob j os (m (j+t))=some (os[t].ren m)
 |o::os,ob,j,0,ht,hN=>by
  show kL m (upd ob (m j) (some (o.ren m))) (j+1) os (m j)=_;grind[pF,List.length_cons,aT]
 |o::os,ob,j,t+1,ht,hN=>by
  have:=aP9 m inj os (upd ob (m j) (some (o.ren m))) (j+1) t (by grind) (by grind);rw[kL,show j+(t+1)=j+1+t from by omega,this];rfl
variable {j:Nat}{σ:List Nat}
theorem aY7 (h:j<σ.length):sub σ nid j=σ[j]:=by simp_all[sub,if_pos,List.getD_eq_getElem?_getD,List.getElem?_eq_getElem]
theorem aY8 (h:σ.length≤j):sub σ nid j=nid+(j-σ.length):=by simp_all[sub,if_neg]
theorem cG2 (hn:σ.Nodup)(ho: ∀s∈σ,s<nid∨nid+4≤s): ∀a b,a<σ.length+4→b<σ.length+4→sub σ nid a=sub σ nid b→a=b:=by grind[Nat.lt_or_ge,aY7,List.getElem_inj,aY8,List.getElem_mem]
variable {os:List HO}
theorem vZ (hn:σ.Nodup)(ho: ∀s∈σ,s<nid∨nid+4≤s)(hfree:Free4 ob nid)(h1:σ.length≤os.length)(h2:os.length≤σ.length+4):
  cH ob σ nid (lst os)=kL (sub σ nid) ob 0 os:=by
 have inj:=cG2 hn ho;have hit: ∀t,(ht:t<os.length)→kL (sub σ nid) ob 0 os (sub σ nid t)=some (os[t].ren (sub σ nid)):=fun t ht=>by
  have:=aP9 (sub σ nid) inj os ob 0 t ht (by omega);grind
 funext i;unfold cH;split
 · grind[List.findIdx?_eq_some_iff_getElem,sub,aY7,lst,List.getElem?_eq_getElem]
 ·
  rename_i hj;have hmem:i∉σ:=fun h=>by grind
  split
  ·
   rename_i hr;have hi:sub σ nid (σ.length+(i-nid))=i:=by rw[aY8 (by omega)];omega
   by_cases hlt:σ.length+(i-nid)<os.length
   · grind[lst,List.getElem?_eq_getElem]
   · rw[pF,lst,List.getElem?_eq_none (by omega),hfree.all i hr.1 hr.2];all_goals grind
  · rename_i hr;rw[pF];intro t ht e;rw[Nat.zero_add]at e;grind[Nat.lt_or_ge,aY7,List.getElem_mem,aY8]
def bD6 (ob:Ob)(m:Nat→Nat):List Nat→List HO→Prop
 |[],[]=>True
 |s::σ,o::os=>ob s=some (o.ren m)∧bD6 ob m σ os
 |_,_=>False
theorem uN {ob:Ob}{m:Nat→Nat}: ∀{σ:List Nat} {os:List HO},bD6 ob m σ os→σ.length=os.length∧ ∀j o,lst os j=some o→ob (σ.getD j 0)=some (o.ren m)
 |[],[],_=>⟨rfl,fun j o h=>by simp[lst]at h⟩
 |s::σ,o::os,h=>by
  obtain⟨h1,h2⟩:=uN h.2;refine⟨by grind,fun j o' hj=>?_⟩;cases j with
  |zero=>cases hj;exact h.1
  |succ j=>grind[yJ]
 |[],_::_,h=>h.elim
 |_::_,[],h=>h.elim
def eH (k:Nat):List HO→Prop
 |[]=>True
 |o::os=>o.men (· <k)∧eH k os
theorem aD3 {k:Nat}: ∀{os:List HO},eH k os→ ∀j o,lst os j=some o→o.men (· <k)
 |[],_,j,o,h=>by simp[lst]at h
 |o::os,h,0,o',hj=>by cases hj;exact h.1
 |o::os,h,j+1,o',hj=>by rw[yJ]at hj;exact aD3 h.2 j o' hj
theorem bU6 {o:HO}(h:lst os j=some o):j<os.length:=(List.getElem?_eq_some_iff.1 h).1
variable {k:Nat}{args:List HV}
theorem fP (hk:k=os.length)(h1:eH k os)(h2:HV.menL (· <k) args):LocOk k args (lst os):=by
 subst hk;exact⟨fun j hj=>⟨os[j],by rw[lst,List.getElem?_eq_getElem hj]⟩,fun id o h=>⟨bU6 h,aD3 h1 id o h⟩,h2⟩
variable {R:HV→List HO→Prop}{largs:List HV}
theorem fV (σ:List Nat)(h:HGe P f largs os R)(ha:args=HV.renL (sub σ nid) largs)
  (hob:bD6 ob (sub σ nid) σ os) (hn:σ.Nodup) (hav: ∀s∈σ,s∉av) (hfree:Free4 ob nid) (hm:eH os.length os) (hm2:HV.menL (· <os.length) largs)
  (hK: ∀r os',R r os'→K (r.ren (sub σ nid)) (kL (sub σ nid) ob 0 os')):HCall P av f args ob nid K:=by
 obtain⟨hl,hg⟩:=uN hob;have ho: ∀s∈σ,s<nid∨nid+4≤s:=fun s hs=>by
  obtain⟨j,hj,rfl⟩:=List.getElem_of_mem hs;have h1:=hg j os[j] (by rw[lst,List.getElem?_eq_getElem]);rw[List.getD_eq_getElem?_getD,List.getElem?_eq_getElem hj]at h1;rcases Nat.lt_or_ge σ[j] nid with h2|h2
  · grind
  ·
   rcases Nat.lt_or_ge σ[j] (nid+4)with h3|h3
   · rw[Option.getD_some,hfree.all _ h2 h3]at h1;grind
   grind
 unfold HGe at h;rw[←hl]at h hm hm2;refine⟨σ,largs,lst os,_,h,fP hl hm hm2,⟨hn,hav⟩,ha,hg,fun r lob' hR _=>?_⟩;obtain⟨os',rfl,⟨h1,h2⟩,hR⟩:=hR;grind[vZ]
def tau (k:Nat)(new:List Nat)(j:Nat):Nat:=if j<k then j else if j-k<new.length then new.getD (j-k) 0 else k+new.sum+4+j
theorem bU7 : ∀{l:List Nat} {x:Nat},x∈l→x≤l.sum
 |y::l,x,h=>by
  rcases List.mem_cons.1 h with rfl|h
  · simp
  · have:=bU7 h;grind
theorem cG3 {new:List Nat}(hn:new.Nodup)(hk: ∀s∈new,k≤s): ∀i j,tau k new i=tau k new j→i=j:=by
 have key: ∀j,j-k<new.length→ ¬j<k→k≤tau k new j∧tau k new j≤new.sum:=fun j h1 h2=>by simp_all[tau,if_neg,if_pos,List.getD_eq_getElem?_getD,List.getElem?_eq_getElem,List.getElem_mem,bU7]
 have lo: ∀j,j<k→tau k new j=j:=fun j h=>by unfold tau;grind
 have hi: ∀j,¬j<k→ ¬j-k<new.length→tau k new j=k+new.sum+4+j:=fun j h1 h2=>by simp_all[tau,if_neg]
 intro i j h;by_cases i1:i<k<;>by_cases j1:j<k
 · rwa [lo i i1,lo j j1]at h
 · grind
 · grind
 ·
  by_cases i2:i-k<new.length<;>by_cases j2:j-k<new.length
  · unfold tau at h;rw[if_neg i1,if_pos i2,if_neg j1,if_pos j2,List.getD_eq_getElem?_getD,List.getElem?_eq_getElem i2,List.getD_eq_getElem?_getD,List.getElem?_eq_getElem j2]at h;grind[List.getElem_inj]
  all_goals grind
def sI (ob:Ob)(cl:List Nat):HO→HO
 | .box t v=> .box t (v.close ob cl).norm
 | .row e sz l=> .row e sz l
 | .mp e sz D=> .mp e sz D
 | .dead=> .dead
 | .tab T=> .tab T
 | .hrow e sz l=> .hrow e sz (HV.closeL ob cl l)
 | .raw es k=> .raw es k
 | .it m s q l=> .it m s q l
def bU8 (ob:Ob)(cl:List Nat)(k:Nat)(τ:Nat→Nat):Nat→List HO→Prop
 |_,[]=>True
 |j,o::os=>(o.men (· <k+4)∧τ j∉cl∧ ∃o0,ob (τ j)=some o0∧sI ob cl o0=o.ren τ)∧bU8 ob cl k τ (j+1) os
theorem aD4 {ob:Ob}{cl:List Nat}{k:Nat}{τ:Nat→Nat}: ∀{os:List HO} {j:Nat},bU8 ob cl k τ j os→ ∀t o,lst os t=some o→o.men (· <k+4)∧τ (j+t)∉cl∧ ∃o0,ob (τ (j+t))=some o0∧sI ob cl o0=o.ren τ
 |[],_,_,t,o,h=>by simp[lst]at h
 |o::os,j,h,0,o',ht=>by cases ht;exact h.1
 |o::os,j,h,t+1,o',ht=>by
  rw[yJ]at ht;have:=aD4 h.2 t o' ht;grind
theorem iD (cl new:List Nat)(r':HV)(os':List HO)(hr:(r.close ob cl).norm=r'.ren (tau k new))(hm:r'.men (· <k+4))(ho:bU8 ob cl k (tau k new) 0 os')(hl:os'.length=k+new.length)
  (hn:new.Nodup) (hk: ∀s∈new,k≤s) (hl4:new.length≤4) (hR:R r' os'):iJ k r ob (fun r ob'=> ∃os',ob'=lst os'∧(k≤os'.length∧os'.length≤k+4)∧R r os'):=by
 refine⟨cl,tau k new,r',lst os',⟨os',rfl,by omega,hR⟩,hr,fun j hj=>by unfold tau;grind,fun i j _ _ h=>cG3 hn hk i j h,hm,fun j o hj=>?_⟩;obtain⟨h1,h2,o0,h3,h4⟩:=aD4 ho j o hj;rw[Nat.zero_add]at h2 h3;refine⟨by have:=bU6 hj;omega,h1,h2,o0,h3,?_⟩;rw[←h4];cases o0<;>rfl
theorem aQ0 (σ:List Nat)(h:HGe P f largs os R)(ha:args=HV.renL (sub σ nid) largs)
  (hob:bD6 ob (sub σ nid) σ os) (hn:σ.Nodup) (hav: ∀j,j<σ.length→σ.getD j 0∉av∨(σ.getD j 0+10000≤nid∧ ∀r os',R r os'→os'[j]? =os[j]?)) (hfree:Free4 ob nid) (hm:eH os.length os) (hm2:HV.menL (· <os.length) largs)
  (hK: ∀r os',R r os'→K (r.ren (sub σ nid)) (kL (sub σ nid) ob 0 os')):HCallL P av f args ob nid K:=by
 obtain⟨hl,hg⟩:=uN hob;have ho: ∀s∈σ,s<nid∨nid+4≤s:=fun s hs=>by
  obtain⟨j,hj,rfl⟩:=List.getElem_of_mem hs;have h1:=hg j os[j] (by rw[lst,List.getElem?_eq_getElem]);rw[List.getD_eq_getElem?_getD,List.getElem?_eq_getElem hj]at h1;rcases Nat.lt_or_ge σ[j] nid with h2|h2
  · grind
  ·
   rcases Nat.lt_or_ge σ[j] (nid+4)with h3|h3
   · rw[Option.getD_some,hfree.all _ h2 h3]at h1;grind
   grind
 unfold HGe at h;rw[←hl]at h hm hm2;refine⟨σ,largs,lst os,_,h,fP hl hm hm2,⟨hn,fun j hj=>(hav j hj).imp (fun h=>h) fun h=>⟨h.1,fun r lob' hR=>?_⟩⟩,ha,hg,fun r lob' hR _=>?_⟩
 · obtain⟨os',rfl,_,hR⟩:=hR;exact h.2 r os' hR
 · obtain⟨os',rfl,⟨h1,h2⟩,hR⟩:=hR;grind[vZ]
end Go.Hl
namespace Go.Proofs.YthedbjfipmkpiaaGreatDoor
open Go Go.Hl Go.Pl
set_option maxRecDepth 10000
def sP :=(And.intro (And.intro (And.intro (And.intro (And.intro @Go.Hl.hlift.eq_def @Go.Hl.hopI.eq_def) (And.intro @Go.Hl.hstep.eq_def @Go.Hl.hop.eq_def)) (And.intro (And.intro @Go.Hl.hint.eq_def @Go.Hl.hstr.eq_def) (And.intro @Go.Hl.hshift.eq_def @Go.Hl.hun.eq_def))) (And.intro (And.intro (And.intro @Go.Hl.hconv.eq_def @Go.Hl.hpick.eq_def) (And.intro @Go.Hl.hclo.eq_def @Go.Hl.hext.eq_def)) (And.intro (And.intro @Go.Hl.hmax.eq_def @Go.Hl.hslice.eq_def) (And.intro @Go.Hl.hindex.eq_def @Go.Hl.hindexAddr.eq_def)))) (And.intro (And.intro (And.intro (And.intro @Go.Hl.hfieldAddr.eq_def @Go.Hl.hfield.eq_def) (And.intro @Go.Hl.hload.eq_def @Go.Hl.hstore.eq_def)) (And.intro (And.intro @Go.Hl.happend.eq_def @Go.Hl.happend2.eq_def) (And.intro @Go.Hl.hslice2.eq_def @Go.Hl.hclear.eq_def))) (And.intro (And.intro (And.intro @Go.Hl.hmakeMap.eq_def @Go.Hl.hlookup.eq_def) (And.intro @Go.Hl.hmapUpdate.eq_def @Go.Pl.hbuildDig.eq_def)) (And.intro (And.intro @Go.Hl.hcopy.eq_def @Go.Hl.hmkIface.eq_def) (And.intro @Go.Hl.hassert.eq_def (And.intro @Go.Hl.hmakeSlice.eq_def @Go.Hl.happends.eq_def))))))
def sA :=(And.intro (And.intro (And.intro (And.intro (And.intro (And.intro (And.intro (And.intro @Go.Hl.HV.toC.eq_1 @Go.Hl.HV.toC.eq_2) (And.intro @Go.Hl.HV.toC.eq_3 (And.intro @Go.Hl.HV.toCL.eq_1 @Go.Hl.HV.toCL.eq_2))) (And.intro (And.intro @Go.Hl.cells_mem_str @List.length_singleton.{0}) (And.intro @beq_true (And.intro @beq_false @decide_eq_true_eq)))) (And.intro (And.intro (And.intro @Go.Hl.denilL_str @Go.Hl.denilL_int) (And.intro @Go.Hl.hwalk2.eq_1 (And.intro @Go.Hl.hwalk2.eq_2 @Go.Hl.ids4.eq_1))) (And.intro (And.intro @Go.Hl.getF.eq_1 @Go.Hl.isEff.eq_1) (And.intro @Go.Hl.isEff.eq_2 (And.intro @Go.Hl.isEff.eq_3 @Go.Hl.isEff.eq_4))))) (And.intro (And.intro (And.intro (And.intro @Bool.or_false @List.append_nil.{0}) (And.intro @Go.Hl.hlex.eq_1 (And.intro @Go.Hl.hlex.eq_2 @Go.Hl.hguard.eq_1))) (And.intro (And.intro @Go.Hl.hcallOf.eq_1 @Go.Hl.hcallOf.eq_2) (And.intro @Go.Hl.touch.eq_1 (And.intro @Go.Hl.touch.eq_2 @Go.Hl.touch.eq_3)))) (And.intro (And.intro (And.intro @Go.Hl.touch.eq_4 @Go.Hl.touch.eq_5) (And.intro @Go.Hl.touch.eq_6 (And.intro @Go.Hl.touch.eq_7 @Go.Hl.touch.eq_8))) (And.intro (And.intro @Go.Hl.touch.eq_9 @Go.Hl.touch.eq_10) (And.intro @Go.Hl.HV.ids.eq_1 (And.intro @Go.Hl.HV.ids.eq_2 @Go.Hl.HV.ids.eq_3)))))) (And.intro (And.intro (And.intro (And.intro (And.intro @Go.Hl.HV.ids.eq_4 @Go.Hl.HV.ids.eq_5) (And.intro @Go.Hl.HV.ids.eq_6 (And.intro @Go.Hl.HV.ids.eq_7 @Go.Hl.ev.eq_1))) (And.intro (And.intro @Go.Hl.ev.eq_2 @Go.Hl.ev.eq_3) (And.intro @Go.Hl.ev.eq_4 (And.intro @Go.Hl.cvC.eq_1 @Go.Hl.cvC.eq_2)))) (And.intro (And.intro (And.intro @Go.Hl.cvC1.eq_1 @Go.Hl.cvC1.eq_2) (And.intro @Go.Hl.cvC1.eq_3 (And.intro @Go.Hl.cvC1.eq_4 @Go.Hl.cvC1.eq_5))) (And.intro (And.intro @Go.Hl.cvC1.eq_6 @Go.Hl.cvC1.eq_7) (And.intro @Go.Hl.cvC1.eq_8 (And.intro @Go.Hl.cvC1.eq_9 @Go.Hl.updo_at))))) (And.intro (And.intro (And.intro (And.intro @Go.Hl.updo_none @Go.Hl.updo.eq_1) (And.intro @Go.Hl.updo.eq_2 (And.intro @Go.Hl.upd_at @Go.Hl.fin_at))) (And.intro (And.intro @Go.Hl.fin_nil @Go.Hl.finA_at) (And.intro @Go.Hl.finA_nil (And.intro @Go.Hl.fob_at @Go.Hl.fob_nil)))) (And.intro (And.intro (And.intro @Go.Hl.none0_at @Go.Hl.hlift_some) (And.intro @Go.Hl.hlift_none (And.intro @Go.Hl.hthen.eq_1 @Go.Hl.hthen.eq_2))) (And.intro (And.intro @Go.Hl.hblk.eq_1 (And.intro @Go.Hl.hblk.eq_2 @Go.Hl.hbin_int)) (And.intro @Go.Hl.hbin_str (And.intro @Go.Hl.hbin_bool @Go.Hl.isShift.eq_1))))))) (And.intro (And.intro (And.intro (And.intro (And.intro (And.intro @Go.Hl.isShift.eq_2 @Go.Hl.isShift.eq_3) (And.intro @Go.Pl.hbuild_agg (And.intro @Go.Hl.hfill.eq_1 @Go.Hl.hfill.eq_2))) (And.intro (And.intro @Go.Hl.HV.norm.eq_1 @List.set_cons_zero.{0}) (And.intro @List.set_cons_succ.{0} (And.intro @Go.Hl.hclosed.eq_1 @Go.Hl.hclosed.eq_2)))) (And.intro (And.intro (And.intro @Go.Hl.hread.eq_1 @Go.Hl.hread.eq_2) (And.intro @Go.Hl.hread.eq_3 (And.intro @Go.Hl.hread.eq_4 @Go.Hl.hlo.eq_1))) (And.intro (And.intro @Go.Hl.hlo.eq_2 @Go.Hl.hlo.eq_3) (And.intro @Go.Hl.live.eq_1 (And.intro @Go.Hl.live.eq_2 @Go.Hl.live.eq_3))))) (And.intro (And.intro (And.intro (And.intro @Go.Hl.live.eq_4 @Go.Hl.live.eq_5) (And.intro @Go.Hl.live.eq_6 (And.intro @Go.Hl.HO.isBox.eq_1 @Go.Hl.HO.isBox.eq_2))) (And.intro (And.intro @Go.Hl.HO.isRow.eq_1 @Go.Hl.HO.isRow.eq_2) (And.intro @Go.Hl.TyD.isAgg.eq_1 (And.intro @Go.Hl.TyD.isAgg.eq_2 @Go.Hl.TyD.isAgg.eq_3)))) (And.intro (And.intro (And.intro @Go.Hl.HV.sto.eq_1 @Go.Hl.HV.sto.eq_2) (And.intro @Go.Hl.HV.sto.eq_3 (And.intro @Go.Hl.HV.sto.eq_4 @Go.Hl.HV.stoL.eq_1))) (And.intro (And.intro @Go.Hl.HV.stoL.eq_2 @Go.Hl.HV.isAgg.eq_1) (And.intro @Go.Hl.HV.isAgg.eq_2 (And.intro @Go.Hl.HV.isAgg.eq_3 @Go.Hl.CV.isAgg.eq_1)))))) (And.intro (And.intro (And.intro (And.intro (And.intro @Go.Hl.CV.isAgg.eq_2 @Go.Hl.HV.cells.eq_1) (And.intro @Go.Hl.HV.cells.eq_2 (And.intro @Go.Hl.HV.cells.eq_3 @Go.Hl.HV.cellsL.eq_1))) (And.intro (And.intro @Go.Hl.HV.cellsL.eq_2 @Go.Hl.CV.cells.eq_1) (And.intro @Go.Hl.CV.cells.eq_2 (And.intro @Go.Hl.CV.cellsL.eq_1 @Go.Hl.CV.cellsL.eq_2)))) (And.intro (And.intro (And.intro @Go.Hl.HV.getAt.eq_1 @Go.Hl.HV.getAt.eq_2) (And.intro @Go.Hl.HV.getAt.eq_3 (And.intro @Go.Hl.HV.getAtL.eq_1 @Go.Hl.HV.getAtL.eq_2))) (And.intro (And.intro @Go.Hl.CV.getAt.eq_1 @Go.Hl.CV.getAt.eq_2) (And.intro @Go.Hl.CV.getAtL.eq_1 (And.intro @Go.Hl.CV.getAtL.eq_2 @Go.Hl.HV.setAt.eq_1))))) (And.intro (And.intro (And.intro (And.intro @Go.Hl.HV.setAt.eq_2 @Go.Hl.HV.setAt.eq_3) (And.intro @Go.Hl.HV.setAtL.eq_1 (And.intro @Go.Hl.HV.setAtL.eq_2 @Go.Hl.CV.setAt.eq_1))) (And.intro (And.intro @Go.Hl.CV.setAt.eq_2 @Go.Hl.CV.setAtL.eq_1) (And.intro @Go.Hl.CV.setAtL.eq_2 (And.intro @Go.Hl.HV.den.eq_1 @Go.Hl.HV.den.eq_2)))) (And.intro (And.intro (And.intro @Go.Hl.CV.denil.eq_1 @Go.Hl.CV.denil.eq_2) (And.intro @Go.Hl.CV.denil.eq_3 (And.intro @Go.Hl.CV.denil.eq_4 @Go.Hl.CV.denilL.eq_1))) (And.intro (And.intro @Go.Hl.CV.denilL.eq_2 (And.intro @List.range.eq_1 @List.range.loop.eq_1)) (And.intro @List.range.loop.eq_2 (And.intro @List.size_toArray.{0} @List.length_cons.{0})))))))) (And.intro (And.intro (And.intro (And.intro (And.intro (And.intro (And.intro @List.length_nil.{0} @List.length_map.{0,0}) (And.intro @List.getElem?_toArray.{0} (And.intro @List.getElem?_cons_zero.{0} @List.getElem?_cons_succ.{0}))) (And.intro (And.intro @List.map_cons.{0,0} @List.map_nil.{0,0}) (And.intro @List.flatMap_cons.{0,0} (And.intro @List.flatMap_nil.{0,0} @List.toList_toArray.{0})))) (And.intro (And.intro (And.intro @List.not_mem_nil.{0} @List.mem_cons.{0}) (And.intro @List.nil_append.{0} (And.intro @List.cons_append.{0} @false_implies))) (And.intro (And.intro @implies_true.{0} @implies_true.{1}) (And.intro @true_and (And.intro @and_true @and_self))))) (And.intro (And.intro (And.intro (And.intro @ne_eq.{0} @ne_eq.{1}) (And.intro @not_false_eq_true (And.intro @not_true_eq_false @Nat.lt_irrefl))) (And.intro (And.intro @Nat.zero_add @Nat.add_zero) (And.intro @Nat.succ_ne_self (And.intro @Option.map_some.{0,0} @Option.map_none.{0,0})))) (And.intro (And.intro (And.intro @Option.bind_some.{0,0} @Option.isSome_some.{0}) (And.intro @Bool.false_eq_true (And.intro @Bool.true_eq_false @Int.toNat_natCast))) (And.intro (And.intro @forall_eq_or_imp.{0} @forall_eq_or_imp.{1}) (And.intro @forall_eq.{0} (And.intro @forall_eq.{1} @decide_true)))))) (And.intro (And.intro (And.intro (And.intro (And.intro @decide_false @Bool.not_true) (And.intro @Bool.not_false (And.intro @beq_self_eq_true.{0} @bne_self_eq_false.{0}))) (And.intro (And.intro @Go.Pl.hbuild_dig @Go.Pl.dg_cells) (And.intro @Go.Pl.dg_isAgg (And.intro @Go.Pl.dg_denil @Go.Pl.dg_getAt)))) (And.intro (And.intro (And.intro @Go.Pl.dg_setAt @Go.Pl.denilL_dg) (And.intro @Go.Pl.us_cells (And.intro @Go.Hl.TyD.plain.eq_1 @Go.Hl.TyD.plain.eq_2))) (And.intro (And.intro @Go.Hl.TyD.plain.eq_3 @Go.Hl.TyD.plain.eq_4) (And.intro @Go.Hl.TyD.plain.eq_5 (And.intro @Go.Hl.bytesC_map @Go.Pl.Rq.cells))))) (And.intro (And.intro (And.intro (And.intro @Go.Pl.Rq.denil @Go.Pl.Rq.isAgg) (And.intro @Go.Pl.Rq.getAll (And.intro @Go.Pl.Rq.setAll @Go.Pl.Rq.fold))) (And.intro (And.intro @Go.Pl.denilL_Rq @Go.Pl.Rq.get_k) (And.intro @Go.Pl.Rq.set_k (And.intro @Go.Pl.Rq.get_n @Go.Pl.Rq.set_n)))) (And.intro (And.intro (And.intro @Go.Pl.Rq.get_m @Go.Pl.Rq.set_m) (And.intro @Go.Pl.Rq.get_t (And.intro @Go.Pl.Rq.set_t @Go.Pl.Nd.cells))) (And.intro (And.intro @Go.Pl.Nd.denil (And.intro @Go.Pl.Nd.isAgg @Go.Pl.Nd.getAll)) (And.intro @Go.Pl.Nd.setAll (And.intro @Go.Pl.Nd.fold @Go.Pl.denilL_Nd))))))) (And.intro (And.intro (And.intro (And.intro (And.intro (And.intro @Go.Pl.Nd.get_k @Go.Pl.Nd.set_k) (And.intro @Go.Pl.Nd.get_n (And.intro @Go.Pl.Nd.set_n @Go.Pl.Nd.get_c))) (And.intro (And.intro @Go.Pl.Nd.set_c @Go.Pl.Nd.get_q) (And.intro @Go.Pl.Nd.set_q (And.intro @Go.Pl.Sp.cells @Go.Pl.Sp.denil)))) (And.intro (And.intro (And.intro @Go.Pl.denilL_Sp @Go.Pl.Sp.isAgg) (And.intro @Go.Pl.Sp.getAll (And.intro @Go.Pl.Sp.setAll @Go.Pl.Sp.fold))) (And.intro (And.intro @Go.Pl.Sp.get_h @Go.Pl.Sp.set_h) (And.intro @Go.Pl.Sp.get_d (And.intro @Go.Pl.Sp.set_d @Go.Pl.Sp.get_m))))) (And.intro (And.intro (And.intro (And.intro @Go.Pl.Sp.set_m @Go.Pl.Ln.cells) (And.intro @Go.Pl.Ln.denil (And.intro @Go.Pl.denilL_Ln @Go.Pl.Ln.isAgg))) (And.intro (And.intro @Go.Pl.Ln.getAll @Go.Pl.Ln.setAll) (And.intro @Go.Pl.Ln.fold (And.intro @Go.Pl.Ln.get_k @Go.Pl.Ln.set_k)))) (And.intro (And.intro (And.intro @Go.Pl.Ln.get_n @Go.Pl.Ln.set_n) (And.intro @Go.Pl.Ln.get_d (And.intro @Go.Pl.Ln.set_d @Go.Pl.Ln.get_f))) (And.intro (And.intro @Go.Pl.Ln.set_f @Go.Pl.Og.cells) (And.intro @Go.Pl.Og.denil (And.intro @Go.Pl.denilL_Og @Go.Pl.Og.isAgg)))))) (And.intro (And.intro (And.intro (And.intro (And.intro @Go.Pl.Og.getAll @Go.Pl.Og.setAll) (And.intro @Go.Pl.Og.fold (And.intro @Go.Pl.Og.get_v @Go.Pl.Og.set_v))) (And.intro (And.intro @Go.Pl.Og.get_l @Go.Pl.Og.set_l) (And.intro @Go.Pl.Og.get_r (And.intro @Go.Pl.Og.set_r @Go.Pl.Qs.cells)))) (And.intro (And.intro (And.intro @Go.Pl.Qs.denil @Go.Pl.denilL_Qs) (And.intro @Go.Pl.Qs.isAgg (And.intro @Go.Pl.Qs.getAll @Go.Pl.Qs.setAll))) (And.intro (And.intro @Go.Pl.Qs.fold @Go.Pl.Qs.get_n) (And.intro @Go.Pl.Qs.set_n (And.intro @Go.Pl.Qs.get_i @Go.Pl.Qs.set_i))))) (And.intro (And.intro (And.intro (And.intro @Go.Pl.Qs.get_a @Go.Pl.Qs.set_a) (And.intro @Go.Pl.Dv.cells (And.intro @Go.Pl.Dv.denil @Go.Pl.denilL_Dv))) (And.intro (And.intro @Go.Pl.Dv.isAgg @Go.Pl.Dv.getAll) (And.intro @Go.Pl.Dv.setAll (And.intro @Go.Pl.Dv.fold @Go.Pl.Dv.get_q)))) (And.intro (And.intro (And.intro @Go.Pl.Dv.set_q @Go.Pl.Dv.get_t) (And.intro @Go.Pl.Dv.set_t (And.intro @Go.Pl.Dv.get_p @Go.Pl.Dv.set_p))) (And.intro (And.intro @Go.Pl.Dv.get_r (And.intro @Go.Pl.Dv.set_r @Go.Pl.Dv.get_o)) (And.intro @Go.Pl.Dv.set_o (And.intro @Go.Pl.Dv.get_l @Go.Pl.Dv.set_l)))))))))
def sE :=(And.intro (And.intro (And.intro (And.intro @Go.Hl.hlex.eq_1 @Go.Hl.hlex.eq_2) (And.intro @Go.Hl.hwalk2.eq_1 @Go.Hl.hwalk2.eq_2)) (And.intro (And.intro @Go.Hl.hlexG.eq_1 @Go.Hl.hlexG.eq_2) (And.intro @Go.Hl.hwalk2G.eq_1 @Go.Hl.hwalk2G.eq_2))) (And.intro (And.intro (And.intro @Go.Hl.hthen.eq_1 @Go.Hl.hthen.eq_2) (And.intro @Go.Hl.hblk.eq_1 @Go.Hl.hblk.eq_2)) (And.intro (And.intro @List.size_toArray.{0} @List.length_cons.{0}) (And.intro @List.length_nil.{0} @Nat.zero_add))))
def sR :=(And.intro (And.intro (And.intro @List.range.eq_1 @List.range.loop.eq_1) (And.intro @List.range.loop.eq_2 @List.size_toArray.{0})) (And.intro (And.intro @List.length_cons.{0} @List.length_nil.{0}) (And.intro @Nat.zero_add @Nat.add_zero)))
def sH :=(And.intro (And.intro @Go.Hl.hop1.eq_1 (And.intro @Go.Hl.hgd.eq_1 @Go.Hl.hgd.eq_2)) (And.intro @List.getElem_toArray.{0} (And.intro @List.getElem_cons_zero.{0} @List.getElem_cons_succ.{0})))
def sN :=(And.intro (And.intro (And.intro @Go.Hl.hop1H.eq_1 @Go.Hl.hop1N.eq_1) (And.intro @Go.Hl.hop1L.eq_1 (And.intro @Go.Hl.hreadH.eq_def @Go.Hl.hreadA.eq_def))) (And.intro (And.intro @Go.Hl.hparts.eq_1 @Go.Hl.hparts.eq_2) (And.intro @Go.Hl.HO.isH.eq_def (And.intro @Go.Hl.nthH_zero @Go.Hl.nthH_succ))))
def tyS :=(And.intro (And.intro (And.intro (And.intro (And.intro (And.intro (And.intro @ty1 (And.intro @ty2 @ty3)) (And.intro @ty4 (And.intro @ty5 @ty6))) (And.intro (And.intro @ty7 (And.intro @ty8 @ty9)) (And.intro @ty10 (And.intro @ty11 @ty12)))) (And.intro (And.intro (And.intro @ty13 (And.intro @ty14 @ty15)) (And.intro @ty16 (And.intro @ty17 @ty18))) (And.intro (And.intro @ty19 (And.intro @ty20 @ty21)) (And.intro (And.intro @ty22 @ty23) (And.intro @ty24 @ty25))))) (And.intro (And.intro (And.intro (And.intro @ty26 (And.intro @ty27 @ty28)) (And.intro @ty29 (And.intro @ty30 @ty32))) (And.intro (And.intro @ty33 (And.intro @ty34 @ty35)) (And.intro (And.intro @ty36 @ty37) (And.intro @ty38 @ty39)))) (And.intro (And.intro (And.intro @ty40 (And.intro @ty41 @ty42)) (And.intro @ty43 (And.intro @ty44 @ty45))) (And.intro (And.intro @ty46 (And.intro @ty47 @ty48)) (And.intro (And.intro @ty49 @ty50) (And.intro @ty51 @ty52)))))) (And.intro (And.intro (And.intro (And.intro (And.intro @ty53 (And.intro @ty55 @ty56)) (And.intro @ty57 (And.intro @ty58 @ty60))) (And.intro (And.intro @ty61 (And.intro @ty62 @ty63)) (And.intro (And.intro @ty64 @ty65) (And.intro @ty66 @ty67)))) (And.intro (And.intro (And.intro @ty69 (And.intro @ty70 @ty71)) (And.intro @ty72 (And.intro @ty73 @ty74))) (And.intro (And.intro @ty75 (And.intro @ty76 @ty77)) (And.intro (And.intro @ty78 @ty79) (And.intro @ty80 @ty82))))) (And.intro (And.intro (And.intro (And.intro @ty83 (And.intro @ty84 @ty85)) (And.intro @ty86 (And.intro @ty87 @ty88))) (And.intro (And.intro @ty89 (And.intro @ty90 @ty91)) (And.intro (And.intro @ty92 @ty93) (And.intro @ty95 @ty96)))) (And.intro (And.intro (And.intro @ty97 (And.intro @ty99 @ty100)) (And.intro @ty101 (And.intro @ty102 @ty103))) (And.intro (And.intro @ty104 (And.intro @ty105 @ty106)) (And.intro (And.intro @ty107 @ty108) (And.intro @ty109 @ty111))))))) (And.intro (And.intro (And.intro (And.intro (And.intro (And.intro @ty112 (And.intro @ty113 @ty114)) (And.intro @ty115 (And.intro @ty117 @ty119))) (And.intro (And.intro @ty120 (And.intro @ty121 @ty122)) (And.intro @ty123 (And.intro @ty124 @ty125)))) (And.intro (And.intro (And.intro @ty126 (And.intro @ty127 @ty128)) (And.intro @ty129 (And.intro @ty130 @ty131))) (And.intro (And.intro @ty132 (And.intro @ty133 @ty134)) (And.intro (And.intro @ty135 @ty136) (And.intro @ty137 @ty138))))) (And.intro (And.intro (And.intro (And.intro @ty140 (And.intro @ty141 @ty142)) (And.intro @ty143 (And.intro @ty145 @ty146))) (And.intro (And.intro @ty148 (And.intro @ty149 @ty150)) (And.intro (And.intro @ty151 @ty152) (And.intro @ty153 @ty154)))) (And.intro (And.intro (And.intro @ty155 (And.intro @ty156 @ty157)) (And.intro @ty158 (And.intro @ty159 @ty160))) (And.intro (And.intro @ty161 (And.intro @ty163 @ty164)) (And.intro (And.intro @ty165 @ty166) (And.intro @ty167 @ty168)))))) (And.intro (And.intro (And.intro (And.intro (And.intro @ty169 (And.intro @ty170 @ty171)) (And.intro @ty173 (And.intro @ty174 @ty175))) (And.intro (And.intro @ty176 (And.intro @ty177 @ty178)) (And.intro (And.intro @ty179 @ty180) (And.intro @ty181 @ty183)))) (And.intro (And.intro (And.intro @ty184 (And.intro @ty185 @ty186)) (And.intro @ty187 (And.intro @ty188 @ty189))) (And.intro (And.intro @ty190 (And.intro @ty192 @ty193)) (And.intro (And.intro @ty194 @ty195) (And.intro @ty197 @ty198))))) (And.intro (And.intro (And.intro (And.intro @ty199 (And.intro @ty200 @ty201)) (And.intro @ty202 (And.intro @ty204 @ty206))) (And.intro (And.intro @ty207 (And.intro @ty209 @ty210)) (And.intro (And.intro @ty211 @ty212) (And.intro @ty213 @ty214)))) (And.intro (And.intro (And.intro @ty215 (And.intro @ty219 @ty220)) (And.intro @ty221 (And.intro @ty222 @ty223))) (And.intro (And.intro @ty224 (And.intro @ty225 @ty226)) (And.intro (And.intro @eqdg43 @nedg43) (And.intro @eqdg44 @nedg44))))))))
theorem AI {p q:Prop}(h:q)(hp:p:=by first|omega|(simp only[maxLen];omega)|assumption|(simp[CV.cells];done)|(simp[CV.cells,maxLen];omega)):p∧q:=⟨hp,h⟩
section
variable {P:Program}{ops:Array Oper}{nx:Nat}{Q:Fr→Ob→Prop}{fr:Fr}{ob:Ob}{c:Bool}
theorem aL {l:List Nat}(d:Nat)(h:fr d= .c (.bool c))(hT:c=true→hlex P ops nx Q l fr ob)(hF:c=false→hlex P ops nx Q l fr ob):hlex P ops nx Q l fr ob:=by
  cases c
  · exact hF rfl
  · exact hT rfl
theorem iV {l:oB}{C:kH}(d:Nat)(h:fr d= .c (.bool c))(hT:c=true→hwalk2 P ops nx Q l C fr ob)(hF:c=false→hwalk2 P ops nx Q l C fr ob):hwalk2 P ops nx Q l C fr ob:=by
  cases c
  · exact hF rfl
  · exact hT rfl
end
end Go.Proofs.YthedbjfipmkpiaaGreatDoor
