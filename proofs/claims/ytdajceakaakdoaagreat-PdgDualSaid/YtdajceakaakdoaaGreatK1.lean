/- Part 1: contracts of functions of the program and of the reference, and plain facts about what they compute; used by the proof of the claimed statement. Conditions: as each theorem states. -/
import Derived.Test.YtdajceakaakdoaaGreatProg
import Derived.Test.YtdajceakaakdoaaGreatHmZ
import Derived.KernelRfl
import Derived.Test.YtdajceakaakdoaaGreatHmZS
import Derived.Test.YtdajceakaakdoaaGreatHmZP
set_option linter.unusedSimpArgs false
set_option linter.unusedVariables false
set_option linter.unnecessarySimpa false
set_option maxRecDepth 100000
set_option maxHeartbeats 2000000
namespace Go.Proofs.YtdajceakaakdoaaGreat
open Go Go.Hl
@[simp] theorem ty3:XC Tryz.prog 3=some ⟨1,8,false,[.int .i64 0],.other⟩:=by kernel_rfl
@[simp] theorem pf3:Q0 Tryz.prog 3=false:=by kernel_rfl
@[simp] theorem sf3:Xo Tryz.prog 3=false:=by kernel_rfl
@[simp] theorem ty4:XC Tryz.prog 4=some ⟨1,1,false,[.bool false],.other⟩:=by kernel_rfl
@[simp] theorem bt4:X4K Tryz.prog 4=true:=by kernel_rfl
@[simp] theorem pf4:Q0 Tryz.prog 4=false:=by kernel_rfl
@[simp] theorem sf4:Xo Tryz.prog 4=false:=by kernel_rfl
@[simp] theorem ty5:XC Tryz.prog 5=some ⟨1,1,false,[.int .u8 0],.other⟩:=by kernel_rfl
@[simp] theorem pf5:Q0 Tryz.prog 5=false:=by kernel_rfl
@[simp] theorem sf5:Xo Tryz.prog 5=false:=by kernel_rfl
@[simp] theorem ty9:XC Tryz.prog 9=some ⟨1,16,false,[.string ⟨#[]⟩],.other⟩:=by kernel_rfl
@[simp] theorem st9:strT Tryz.prog 9=true:=by kernel_rfl
@[simp] theorem pf9:Q0 Tryz.prog 9=false:=by kernel_rfl
@[simp] theorem sf9:Xo Tryz.prog 9=false:=by kernel_rfl
@[simp] theorem ty22:XC Tryz.prog 22=some ⟨1,24,false,[.slice none 0 0],.slice 89⟩:=by kernel_rfl
@[simp] theorem pf22:Q0 Tryz.prog 22=false:=by kernel_rfl
@[simp] theorem sl22:Xo Tryz.prog 22=true:=by kernel_rfl
@[simp] theorem ty23:XC Tryz.prog 23=some ⟨1,24,false,[.slice none 0 0],.slice 93⟩:=by kernel_rfl
@[simp] theorem pf23:Q0 Tryz.prog 23=false:=by kernel_rfl
@[simp] theorem sl23:Xo Tryz.prog 23=true:=by kernel_rfl
@[simp] theorem ty24:XC Tryz.prog 24=some ⟨1,24,false,[.slice none 0 0],.slice 70⟩:=by kernel_rfl
@[simp] theorem pf24:Q0 Tryz.prog 24=false:=by kernel_rfl
@[simp] theorem sl24:Xo Tryz.prog 24=true:=by kernel_rfl
@[simp] theorem ty26:XC Tryz.prog 26=some ⟨3,72,true,[.slice none 0 0,.slice none 0 0,.slice none 0 0],.struct [(0,22),(1,23),(2,24)]⟩:=by kernel_rfl
@[simp] theorem pf26:Q0 Tryz.prog 26=false:=by kernel_rfl
@[simp] theorem sf26:Xo Tryz.prog 26=false:=by kernel_rfl
@[simp] theorem ty29:XC Tryz.prog 29=some ⟨1,24,false,[.slice none 0 0],.slice 3⟩:=by kernel_rfl
@[simp] theorem pf29:Q0 Tryz.prog 29=false:=by kernel_rfl
@[simp] theorem sl29:Xo Tryz.prog 29=true:=by kernel_rfl
@[simp] theorem ty30:XC Tryz.prog 30=some ⟨1,8,false,[.int .i64 0],.other⟩:=by kernel_rfl
@[simp] theorem pf30:Q0 Tryz.prog 30=false:=by kernel_rfl
@[simp] theorem sf30:Xo Tryz.prog 30=false:=by kernel_rfl
@[simp] theorem ty37:XC Tryz.prog 37=some ⟨1,24,false,[.slice none 0 0],.slice 51⟩:=by kernel_rfl
@[simp] theorem pf37:Q0 Tryz.prog 37=false:=by kernel_rfl
@[simp] theorem sl37:Xo Tryz.prog 37=true:=by kernel_rfl
@[simp] theorem ty39:XC Tryz.prog 39=some ⟨3,40,true,[.int .i64 0,.int .i64 0,.slice none 0 0],.struct [(0,3),(1,3),(2,37)]⟩:=by kernel_rfl
@[simp] theorem pf39:Q0 Tryz.prog 39=false:=by kernel_rfl
@[simp] theorem sf39:Xo Tryz.prog 39=false:=by kernel_rfl
@[simp] theorem ty43:XC Tryz.prog 43=some ⟨1,24,false,[.slice none 0 0],.slice 52⟩:=by kernel_rfl
@[simp] theorem pf43:Q0 Tryz.prog 43=false:=by kernel_rfl
@[simp] theorem sl43:Xo Tryz.prog 43=true:=by kernel_rfl
@[simp] theorem ty45:XC Tryz.prog 45=some ⟨2,32,true,[.int .i64 0,.slice none 0 0],.struct [(0,3),(1,43)]⟩:=by kernel_rfl
@[simp] theorem pf45:Q0 Tryz.prog 45=false:=by kernel_rfl
@[simp] theorem sf45:Xo Tryz.prog 45=false:=by kernel_rfl
@[simp] theorem ty49:XC Tryz.prog 49=some ⟨1,8,false,[.int .i64 0],.other⟩:=by kernel_rfl
@[simp] theorem pf49:Q0 Tryz.prog 49=false:=by kernel_rfl
@[simp] theorem sf49:Xo Tryz.prog 49=false:=by kernel_rfl
@[simp] theorem ty51:XC Tryz.prog 51=some ⟨3,24,true,[.int .i64 0,.int .i64 0,.int .i64 0],.struct [(0,3),(1,3),(2,49)]⟩:=by kernel_rfl
@[simp] theorem pf51:Q0 Tryz.prog 51=false:=by kernel_rfl
@[simp] theorem sf51:Xo Tryz.prog 51=false:=by kernel_rfl
@[simp] theorem ty52:XC Tryz.prog 52=some ⟨2,16,true,[.int .i64 0,.int .i64 0],.array 2 3⟩:=by kernel_rfl
@[simp] theorem pf52:Q0 Tryz.prog 52=false:=by kernel_rfl
@[simp] theorem sf52:Xo Tryz.prog 52=false:=by kernel_rfl
@[simp] theorem ai52:arrI Tryz.prog 52=some (2,.i64):=by kernel_rfl
@[simp] theorem ty59:XC Tryz.prog 59=some ⟨3,72,true,[.slice none 0 0,.slice none 0 0,.slice none 0 0],.struct [(0,29),(1,29),(2,29)]⟩:=by kernel_rfl
@[simp] theorem pf59:Q0 Tryz.prog 59=false:=by kernel_rfl
@[simp] theorem sf59:Xo Tryz.prog 59=false:=by kernel_rfl
@[simp] theorem ty60:XC Tryz.prog 60=some ⟨6,144,true,[.slice none 0 0,.slice none 0 0,.slice none 0 0,.slice none 0 0,.slice none 0 0,.slice none 0 0],.array 2 59⟩:=by kernel_rfl
@[simp] theorem pf60:Q0 Tryz.prog 60=false:=by kernel_rfl
@[simp] theorem sf60:Xo Tryz.prog 60=false:=by kernel_rfl
@[simp] theorem ty64:XC Tryz.prog 64=some ⟨1,8,false,[.int .i64 0],.other⟩:=by kernel_rfl
@[simp] theorem pf64:Q0 Tryz.prog 64=false:=by kernel_rfl
@[simp] theorem sf64:Xo Tryz.prog 64=false:=by kernel_rfl
@[simp] theorem ty65:XC Tryz.prog 65=some ⟨1,8,false,[.int .i64 0],.other⟩:=by kernel_rfl
@[simp] theorem pf65:Q0 Tryz.prog 65=false:=by kernel_rfl
@[simp] theorem sf65:Xo Tryz.prog 65=false:=by kernel_rfl
@[simp] theorem ty66:XC Tryz.prog 66=some ⟨1,24,false,[.slice none 0 0],.slice 68⟩:=by kernel_rfl
@[simp] theorem pf66:Q0 Tryz.prog 66=false:=by kernel_rfl
@[simp] theorem sl66:Xo Tryz.prog 66=true:=by kernel_rfl
@[simp] theorem ty68:XC Tryz.prog 68=some ⟨3,40,true,[.int .i64 0,.int .i64 0,.slice none 0 0],.struct [(0,65),(1,3),(2,66)]⟩:=by kernel_rfl
@[simp] theorem pf68:Q0 Tryz.prog 68=false:=by kernel_rfl
@[simp] theorem sf68:Xo Tryz.prog 68=false:=by kernel_rfl
@[simp] theorem ty70:XC Tryz.prog 70=some ⟨10,144,true,[.int .i64 0,.int .i64 0,.int .i64 0,.int .i64 0,.int .i64 0,.int .i64 0,.slice none 0 0,.slice none 0 0,.slice none 0 0,.slice none 0 0],.struct [(0,64),(1,3),(2,3),(3,3),(4,68),(7,24),(8,24),(9,29)]⟩:=by kernel_rfl
@[simp] theorem pf70:Q0 Tryz.prog 70=false:=by kernel_rfl
@[simp] theorem sf70:Xo Tryz.prog 70=false:=by kernel_rfl
@[simp] theorem ty73:XC Tryz.prog 73=some ⟨1,24,false,[.slice none 0 0],.slice 4⟩:=by kernel_rfl
@[simp] theorem pf73:Q0 Tryz.prog 73=false:=by kernel_rfl
@[simp] theorem sl73:Xo Tryz.prog 73=true:=by kernel_rfl
@[simp] theorem ty76:XC Tryz.prog 76=some ⟨1,24,false,[.slice none 0 0],.slice 150⟩:=by kernel_rfl
@[simp] theorem pf76:Q0 Tryz.prog 76=false:=by kernel_rfl
@[simp] theorem sl76:Xo Tryz.prog 76=true:=by kernel_rfl
@[simp] theorem ty87:XC Tryz.prog 87=some ⟨1,8,false,[.int .i64 0],.other⟩:=by kernel_rfl
@[simp] theorem pf87:Q0 Tryz.prog 87=false:=by kernel_rfl
@[simp] theorem sf87:Xo Tryz.prog 87=false:=by kernel_rfl
@[simp] theorem ty89:XC Tryz.prog 89=some ⟨5,48,true,[.string ⟨#[]⟩,.int .i64 0,.int .i64 0,.int .i64 0,.int .i64 0],.struct [(0,9),(1,87),(2,3),(3,3),(4,3)]⟩:=by kernel_rfl
@[simp] theorem pf89:Q0 Tryz.prog 89=false:=by kernel_rfl
@[simp] theorem sf89:Xo Tryz.prog 89=false:=by kernel_rfl
@[simp] theorem ty93:XC Tryz.prog 93=some ⟨6,72,true,[.string ⟨#[]⟩,.int .i64 0,.int .i64 0,.int .i64 0,.int .i64 0,.slice none 0 0],.struct [(0,9),(1,3),(2,3),(3,68)]⟩:=by kernel_rfl
@[simp] theorem pf93:Q0 Tryz.prog 93=false:=by kernel_rfl
@[simp] theorem sf93:Xo Tryz.prog 93=false:=by kernel_rfl
@[simp] theorem ty95:XC Tryz.prog 95=some ⟨1,24,false,[.slice none 0 0],.slice 9⟩:=by kernel_rfl
@[simp] theorem pf95:Q0 Tryz.prog 95=false:=by kernel_rfl
@[simp] theorem sl95:Xo Tryz.prog 95=true:=by kernel_rfl
@[simp] theorem ty96:XC Tryz.prog 96=some ⟨1,24,false,[.slice none 0 0],.slice 207⟩:=by kernel_rfl
@[simp] theorem pf96:Q0 Tryz.prog 96=false:=by kernel_rfl
@[simp] theorem sl96:Xo Tryz.prog 96=true:=by kernel_rfl
@[simp] theorem ty98:XC Tryz.prog 98=some ⟨6,112,true,[.slice none 0 0,.slice none 0 0,.slice none 0 0,.slice none 0 0,.int .i64 0,.bool false],.struct [(0,95),(1,43),(2,96),(3,96),(4,3),(5,4)]⟩:=by kernel_rfl
@[simp] theorem pf98:Q0 Tryz.prog 98=false:=by kernel_rfl
@[simp] theorem sf98:Xo Tryz.prog 98=false:=by kernel_rfl
@[simp] theorem ty120:XC Tryz.prog 120=some ⟨7,120,true,[.slice none 0 0,.slice none 0 0,.slice none 0 0,.int .i64 0,.int .i64 0,.slice none 0 0,.bool false],.struct [(0,26),(3,3),(4,3),(5,37),(6,4)]⟩:=by kernel_rfl
@[simp] theorem pf120:Q0 Tryz.prog 120=false:=by kernel_rfl
@[simp] theorem sf120:Xo Tryz.prog 120=false:=by kernel_rfl
@[simp] theorem ty121:XC Tryz.prog 121=some ⟨1,24,false,[.slice none 0 0],.slice 29⟩:=by kernel_rfl
@[simp] theorem pf121:Q0 Tryz.prog 121=false:=by kernel_rfl
@[simp] theorem sl121:Xo Tryz.prog 121=true:=by kernel_rfl
@[simp] theorem ty122:XC Tryz.prog 122=some ⟨1,24,false,[.slice none 0 0],.slice 29⟩:=by kernel_rfl
@[simp] theorem pf122:Q0 Tryz.prog 122=false:=by kernel_rfl
@[simp] theorem sl122:Xo Tryz.prog 122=true:=by kernel_rfl
@[simp] theorem ty127:XC Tryz.prog 127=some ⟨1,24,false,[.slice none 0 0],.slice 195⟩:=by kernel_rfl
@[simp] theorem pf127:Q0 Tryz.prog 127=false:=by kernel_rfl
@[simp] theorem sl127:Xo Tryz.prog 127=true:=by kernel_rfl
@[simp] theorem ty129:XC Tryz.prog 129=some ⟨1,24,true,[.slice none 0 0],.struct [(0,127)]⟩:=by kernel_rfl
@[simp] theorem pf129:Q0 Tryz.prog 129=false:=by kernel_rfl
@[simp] theorem sf129:Xo Tryz.prog 129=false:=by kernel_rfl
@[simp] theorem ty135:XC Tryz.prog 135=some ⟨1,8,false,[.map none],.other⟩:=by kernel_rfl
@[simp] theorem pf135:Q0 Tryz.prog 135=false:=by kernel_rfl
@[simp] theorem sf135:Xo Tryz.prog 135=false:=by kernel_rfl
@[simp] theorem ty137:XC Tryz.prog 137=some ⟨5,104,true,[.slice none 0 0,.slice none 0 0,.slice none 0 0,.slice none 0 0,.map none],.struct [(0,26),(3,24),(4,135)]⟩:=by kernel_rfl
@[simp] theorem pf137:Q0 Tryz.prog 137=false:=by kernel_rfl
@[simp] theorem sf137:Xo Tryz.prog 137=false:=by kernel_rfl
@[simp] theorem ty148:XC Tryz.prog 148=some ⟨7,152,true,[.slice none 0 0,.slice none 0 0,.slice none 0 0,.slice none 0 0,.slice none 0 0,.slice none 0 0,.int .i64 0],.struct [(0,26),(3,29),(4,29),(5,76),(6,3)]⟩:=by kernel_rfl
@[simp] theorem pf148:Q0 Tryz.prog 148=false:=by kernel_rfl
@[simp] theorem sf148:Xo Tryz.prog 148=false:=by kernel_rfl
@[simp] theorem ty150:XC Tryz.prog 150=some ⟨2,16,true,[.int .i64 0,.int .i64 0],.struct [(0,3),(1,3)]⟩:=by kernel_rfl
@[simp] theorem pf150:Q0 Tryz.prog 150=false:=by kernel_rfl
@[simp] theorem sf150:Xo Tryz.prog 150=false:=by kernel_rfl
@[simp] theorem ty157:XC Tryz.prog 157=some ⟨1,8,false,[.pointer none],.other⟩:=by kernel_rfl
@[simp] theorem pt157:Q0 Tryz.prog 157=true:=by kernel_rfl
@[simp] theorem sf157:Xo Tryz.prog 157=false:=by kernel_rfl
@[simp] theorem ty158:XC Tryz.prog 158=some ⟨1,8,false,[.nilFunc],.other⟩:=by kernel_rfl
@[simp] theorem pf158:Q0 Tryz.prog 158=false:=by kernel_rfl
@[simp] theorem sf158:Xo Tryz.prog 158=false:=by kernel_rfl
@[simp] theorem pf162:Q0 Tryz.prog 162=false:=by kernel_rfl
@[simp] theorem sf162:Xo Tryz.prog 162=false:=by kernel_rfl
@[simp] theorem ty182:XC Tryz.prog 182=some ⟨2,16,true,[.int .i64 0,.bool false],.struct [(0,3),(1,4)]⟩:=by kernel_rfl
@[simp] theorem pf182:Q0 Tryz.prog 182=false:=by kernel_rfl
@[simp] theorem sf182:Xo Tryz.prog 182=false:=by kernel_rfl
@[simp] theorem ty185:XC Tryz.prog 185=some ⟨3,24,true,[.int .i64 0,.int .i64 0,.int .i64 0],.struct [(0,3),(1,3),(2,3)]⟩:=by kernel_rfl
@[simp] theorem pf185:Q0 Tryz.prog 185=false:=by kernel_rfl
@[simp] theorem sf185:Xo Tryz.prog 185=false:=by kernel_rfl
@[simp] theorem ty190:XC Tryz.prog 190=some ⟨1,24,false,[.slice none 0 0],.slice 191⟩:=by kernel_rfl
@[simp] theorem pf190:Q0 Tryz.prog 190=false:=by kernel_rfl
@[simp] theorem sl190:Xo Tryz.prog 190=true:=by kernel_rfl
@[simp] theorem ty191:XC Tryz.prog 191=some ⟨1,8,false,[.map none],.other⟩:=by kernel_rfl
@[simp] theorem mt191:mapT Tryz.prog 191=some (.int .i64,.bool false):=by kernel_rfl
@[simp] theorem im191:X55 Tryz.prog 191=true:=by kernel_rfl
@[simp] theorem pf191:Q0 Tryz.prog 191=false:=by kernel_rfl
@[simp] theorem sf191:Xo Tryz.prog 191=false:=by kernel_rfl
@[simp] theorem ty192:XC Tryz.prog 192=some ⟨1,8,false,[.nilFunc],.other⟩:=by kernel_rfl
@[simp] theorem pf192:Q0 Tryz.prog 192=false:=by kernel_rfl
@[simp] theorem sf192:Xo Tryz.prog 192=false:=by kernel_rfl
@[simp] theorem ty193:XC Tryz.prog 193=some ⟨1,8,false,[.int .i64 0],.other⟩:=by kernel_rfl
@[simp] theorem pf193:Q0 Tryz.prog 193=false:=by kernel_rfl
@[simp] theorem sf193:Xo Tryz.prog 193=false:=by kernel_rfl
@[simp] theorem ty195:XC Tryz.prog 195=some ⟨4,32,true,[.int .i64 0,.int .i64 0,.int .i64 0,.int .i64 0],.struct [(0,193),(1,3),(2,3),(3,3)]⟩:=by kernel_rfl
@[simp] theorem pf195:Q0 Tryz.prog 195=false:=by kernel_rfl
@[simp] theorem sf195:Xo Tryz.prog 195=false:=by kernel_rfl
@[simp] theorem ty202:XC Tryz.prog 202=some ⟨1,8,false,[.pointer none],.other⟩:=by kernel_rfl
@[simp] theorem pt202:Q0 Tryz.prog 202=true:=by kernel_rfl
@[simp] theorem sf202:Xo Tryz.prog 202=false:=by kernel_rfl
@[simp] theorem ty207:XC Tryz.prog 207=some ⟨2,24,true,[.string ⟨#[]⟩,.int .i64 0],.struct [(0,9),(1,3)]⟩:=by kernel_rfl
@[simp] theorem pf207:Q0 Tryz.prog 207=false:=by kernel_rfl
@[simp] theorem sf207:Xo Tryz.prog 207=false:=by kernel_rfl
@[simp] theorem ty216:XC Tryz.prog 216=some ⟨1,8,false,[.int .i64 0],.other⟩:=by kernel_rfl
@[simp] theorem pf216:Q0 Tryz.prog 216=false:=by kernel_rfl
@[simp] theorem sf216:Xo Tryz.prog 216=false:=by kernel_rfl
@[simp] theorem pf223:Q0 Tryz.prog 223=false:=by kernel_rfl
@[simp] theorem sf223:Xo Tryz.prog 223=false:=by kernel_rfl
@[simp] theorem pf225:Q0 Tryz.prog 225=false:=by kernel_rfl
@[simp] theorem sf225:Xo Tryz.prog 225=false:=by kernel_rfl
@[simp] theorem ty241:XC Tryz.prog 241=some ⟨1,24,false,[.slice none 0 0],.slice 87⟩:=by kernel_rfl
@[simp] theorem pf241:Q0 Tryz.prog 241=false:=by kernel_rfl
@[simp] theorem sl241:Xo Tryz.prog 241=true:=by kernel_rfl
@[simp] theorem ty244:XC Tryz.prog 244=some ⟨1,24,false,[.slice none 0 0],.slice 24⟩:=by kernel_rfl
@[simp] theorem pf244:Q0 Tryz.prog 244=false:=by kernel_rfl
@[simp] theorem sl244:Xo Tryz.prog 244=true:=by kernel_rfl
@[simp] theorem ty245:XC Tryz.prog 245=some ⟨1,8,false,[.pointer none],.other⟩:=by kernel_rfl
@[simp] theorem pt245:Q0 Tryz.prog 245=true:=by kernel_rfl
@[simp] theorem sf245:Xo Tryz.prog 245=false:=by kernel_rfl
@[simp] theorem ty247:XC Tryz.prog 247=some ⟨2,32,true,[.slice none 0 0,.int .i64 0],.struct [(0,127),(1,3)]⟩:=by kernel_rfl
@[simp] theorem pf247:Q0 Tryz.prog 247=false:=by kernel_rfl
@[simp] theorem sf247:Xo Tryz.prog 247=false:=by kernel_rfl
@[simp] theorem ty248:XC Tryz.prog 248=some ⟨1,24,false,[.slice none 0 0],.slice 250⟩:=by kernel_rfl
@[simp] theorem pf248:Q0 Tryz.prog 248=false:=by kernel_rfl
@[simp] theorem sl248:Xo Tryz.prog 248=true:=by kernel_rfl
@[simp] theorem ty250:XC Tryz.prog 250=some ⟨1,8,false,[.nilFunc],.other⟩:=by kernel_rfl
@[simp] theorem pf250:Q0 Tryz.prog 250=false:=by kernel_rfl
@[simp] theorem sf250:Xo Tryz.prog 250=false:=by kernel_rfl
@[simp] theorem ty262:XC Tryz.prog 262=some ⟨1,8,false,[.map none],.other⟩:=by kernel_rfl
@[simp] theorem mt262:mapT Tryz.prog 262=some (.string,.int .i64 0):=by kernel_rfl
@[simp] theorem im262:X55 Tryz.prog 262=true:=by kernel_rfl
@[simp] theorem pf262:Q0 Tryz.prog 262=false:=by kernel_rfl
@[simp] theorem sf262:Xo Tryz.prog 262=false:=by kernel_rfl
@[simp] theorem ty263:XC Tryz.prog 263=some ⟨1,24,false,[.slice none 0 0],.slice 73⟩:=by kernel_rfl
@[simp] theorem pf263:Q0 Tryz.prog 263=false:=by kernel_rfl
@[simp] theorem sl263:Xo Tryz.prog 263=true:=by kernel_rfl
@[simp] theorem ty265:XC Tryz.prog 265=some ⟨5,104,true,[.slice none 0 0,.map none,.slice none 0 0,.slice none 0 0,.slice none 0 0],.struct [(0,95),(1,262),(2,263),(3,121),(4,121)]⟩:=by kernel_rfl
@[simp] theorem pf265:Q0 Tryz.prog 265=false:=by kernel_rfl
@[simp] theorem sf265:Xo Tryz.prog 265=false:=by kernel_rfl
@[simp] theorem ty271:XC Tryz.prog 271=some ⟨2,48,true,[.slice none 0 0,.slice none 0 0],.struct [(0,95),(1,263)]⟩:=by kernel_rfl
@[simp] theorem pf271:Q0 Tryz.prog 271=false:=by kernel_rfl
@[simp] theorem sf271:Xo Tryz.prog 271=false:=by kernel_rfl
@[simp] theorem pf273:Q0 Tryz.prog 273=false:=by kernel_rfl
@[simp] theorem sf273:Xo Tryz.prog 273=false:=by kernel_rfl
@[simp] theorem ty287:XC Tryz.prog 287=some ⟨2,16,true,[.int .i64 0,.int .i64 0],.struct [(0,3),(1,3)]⟩:=by kernel_rfl
@[simp] theorem pf287:Q0 Tryz.prog 287=false:=by kernel_rfl
@[simp] theorem sf287:Xo Tryz.prog 287=false:=by kernel_rfl
@[simp] theorem ty296:XC Tryz.prog 296=some ⟨1,8,false,[.map none],.other⟩:=by kernel_rfl
@[simp] theorem mt296:mapT Tryz.prog 296=some (.string,.bool false):=by kernel_rfl
@[simp] theorem im296:X55 Tryz.prog 296=true:=by kernel_rfl
@[simp] theorem pf296:Q0 Tryz.prog 296=false:=by kernel_rfl
@[simp] theorem sf296:Xo Tryz.prog 296=false:=by kernel_rfl
@[simp] theorem ty309:XC Tryz.prog 309=some ⟨1,24,false,[.slice none 0 0],.slice 287⟩:=by kernel_rfl
@[simp] theorem pf309:Q0 Tryz.prog 309=false:=by kernel_rfl
@[simp] theorem sl309:Xo Tryz.prog 309=true:=by kernel_rfl
@[simp] theorem fsV:X53 Tryz.prog 89=some [false,true,true,true,true]:=by kernel_rfl
@[simp] theorem arV:arrI Tryz.prog 89=none:=by kernel_rfl
theorem Xc {n:Int} (h1:-9223372036854775808≤n) (h2:n≤9223372036854775807):IntKind.i64.wrap n=n:=IntWalk.i64_in n ⟨h1,h2⟩
inductive Tm where
 |mk (op n:Int) (kids:List Tm)
mutual
def Tm.enc:Tm→List CD
 | .mk o n ks=>[iC o,iC n,.sl 3 (XS ks)]
def XS:List Tm→List (List CD)
 |[]=>[]
 |t::l=>t.enc::XS l
end
inductive St where
 |mk (do_ cost var n:Int) (term:Tm) (then_ else_:List St) (bounds:List Int)
def Xg (l:List Int):List (List CD):=l.map fun n=>[iC n]
mutual
def St.enc:St→List CD
 | .mk d c v n t a b bs=>[iC d,iC c,iC v,iC n]++t.enc++[.sl 10 (X7 a),.sl 10 (X7 b),.sl 1 (Xg bs)]
def X7:List St→List (List CD)
 |[]=>[]
 |s::l=>s.enc::X7 l
end
structure Vr where
 name:ByteArray
 kind:Int
 low:Int
 high:Int
 init:Int
structure Ht where
 name:ByteArray
 low:Int
 high:Int
 term:Tm
structure Fl where
 vars:List Vr
 hats:List Ht
 body:List St
def Vr.enc (v:Vr):List CD:=[sC v.name,iC v.kind,iC v.low,iC v.high,iC v.init]
def Ht.enc (h:Ht):List CD:=[sC h.name,iC h.low,iC h.high]++h.term.enc
def Xt (l:List Vr):List (List CD):=l.map Vr.enc
def Xx (l:List Ht):List (List CD):=l.map Ht.enc
def Fl.enc (f:Fl):List CD:=[.sl 5 (Xt f.vars),.sl 6 (Xx f.hats),.sl 10 (X7 f.body)]
attribute [simp] Vr.enc Ht.enc Fl.enc Tm.enc St.enc
theorem X1A (l:List Tm):XS l=l.map Tm.enc:=by
 induction l with
 |nil=>simp[XS]
 |cons t l ih=>simp[XS,ih]
theorem Z8 (l:List St):X7 l=l.map St.enc:=by
 induction l with
 |nil=>simp[X7]
 |cons t l ih=>simp[X7,ih]
theorem Tm.ind {p:Tm→Prop} (h:∀o n ks,(∀t∈ks,p t)→p (.mk o n ks)):∀t,p t
 | .mk o n ks=>h o n ks fun t ht=>Tm.ind h t
theorem St.ind {p:St→Prop} (h:∀d c v n t a b bs,(∀s∈a,p s)→(∀s∈b,p s)→p (.mk d c v n t a b bs)):∀s,p s
 | .mk d c v n t a b bs=>h d c v n t a b bs (fun s hs=>St.ind h s) (fun s hs=>St.ind h s)
def Tm.op:Tm→Int| .mk o _ _=>o
def Tm.n:Tm→Int| .mk _ n _=>n
def Tm.kids:Tm→List Tm| .mk _ _ k=>k
def St.do_:St→Int| .mk d _ _ _ _ _ _ _=>d
def St.cost:St→Int| .mk _ c _ _ _ _ _ _=>c
def St.var:St→Int| .mk _ _ v _ _ _ _ _=>v
def St.n:St→Int| .mk _ _ _ n _ _ _ _=>n
def St.term:St→Tm| .mk _ _ _ _ t _ _ _=>t
def St.then_:St→List St| .mk _ _ _ _ _ a _ _=>a
def St.else_:St→List St| .mk _ _ _ _ _ _ b _=>b
def St.bounds:St→List Int| .mk _ _ _ _ _ _ _ bs=>bs
abbrev aT (t:Tm):TV:=.agg (t.enc.map .c)
abbrev aS (s:St):TV:=.agg (s.enc.map .c)
abbrev aV (v:Vr):TV:=.agg (v.enc.map .c)
abbrev aH (h:Ht):TV:=.agg (h.enc.map .c)
abbrev aF (f:Fl):TV:=.agg (f.enc.map .c)
abbrev lV (l:List Vr):TV:=.one (.c (.sl 5 (Xt l)))
abbrev lS (l:List St):TV:=.one (.c (.sl 10 (X7 l)))
abbrev lI (l:List Int):TV:=.one (.c (.sl 1 (Xg l)))
theorem X14 {ks:List Tm} {i:Nat} {t:Tm} (h:ks[i]? =some t):(XS ks)[i]? =some t.enc:=by rw[X1A,List.getElem?_map,h];rfl
theorem Qy {ks:List St} {i:Nat} {t:St} (h:ks[i]? =some t):(X7 ks)[i]? =some t.enc:=by rw[Z8,List.getElem?_map,h];rfl
@[simp] theorem len_encT (ks:List Tm):(XS ks).length=ks.length:=by rw[X1A,List.length_map]
@[simp] theorem len_encS (ks:List St):(X7 ks).length=ks.length:=by rw[Z8,List.length_map]
@[simp] theorem len_encV (ks:List Vr):(Xt ks).length=ks.length:=by simp[Xt]
@[simp] theorem len_encH (ks:List Ht):(Xx ks).length=ks.length:=by simp[Xx]
@[simp] theorem WA (ks:List Int):(Xg ks).length=ks.length:=by simp[Xg]
@[simp] theorem get_encV (ks:List Vr) (i:Nat):(Xt ks)[i]? =ks[i]?.map Vr.enc:=by simp[Xt]
@[simp] theorem get_encH (ks:List Ht) (i:Nat):(Xx ks)[i]? =ks[i]?.map Ht.enc:=by simp[Xx]
@[simp] theorem X5r (ks:List Int) (i:Nat):(Xg ks)[i]? =ks[i]?.map fun n=>[iC n]:=by simp[Xg]
@[simp] theorem encV_nil:Xt []=[]:=rfl
@[simp] theorem encH_nil:Xx []=[]:=rfl
@[simp] theorem encI_nil:Xg []=[]:=rfl
attribute [simp] XS X7
theorem Xr {α:Type} {l:List α} {k:Nat} (h:k<l.length):∃x,l[k]? =some x∧l.drop k=x::l.drop (k+1):=
 ⟨l[k],List.getElem?_eq_getElem h,List.drop_eq_getElem_cons h⟩
theorem XN {k n:Nat} (h:k<n) (hn:n≤1000000000):IntKind.i64.wrap ((k:Int)+1)=(k:Int)+1:=Xc (by omega) (by omega)
end Go.Proofs.YtdajceakaakdoaaGreat

namespace Go.Proofs.YtdajceakaakdoaaGreat
open Go Go.Hl
def Wo (a b:Int):Bool:=decide (a≤b)&&(decide (-1048576≤a)&&decide (b≤1048576))
theorem Zx (a b:Int) (d:Nat):Con Tryz.prog 181 true [li a,li b] (.v (lb (Wo a b))) none d:=by
 refine X4 Tryz.func181 ?_;simp only[Tryz.f181];refine X2 ?_;refine X2 ?_;exact(XE (fun h=>⟨.inr rfl,h⟩) _ (by simp[*];rfl) (by first|rfl|(simp[*,Wo,Bool.and_assoc];done)|(simp only[XY,Wo,Bool.and_assoc];(repeat' split)<;>first|rfl|(exfalso;omega)|simp_all)) (by simp))
def Qu (o:Int):Int×Int:=if o=0∨o=24 then(0,0)else if o=6∨o=7 then(1,1)else if 8≤o∧o≤22 then(2,2)else if o=23 then(3,3)else if o=25 then(2,33)else(-1,-1)
theorem X5X (o:Int) (d:Nat):Con Tryz.prog 248 true [li o] (.tup [li (Qu o).1,li (Qu o).2]) none d:=by
 refine X4 Tryz.func248 ?_;simp only[Tryz.f248];refine X2 ?_;refine X0<|X3<|X0<|X1 ?_;refine(X9 rfl (fun h2=>?_) (fun h2=>?_))
 · (try simp only[BN]at h2);refine X2 ?_;exact(XE (fun h=>⟨.inr rfl,h⟩) _ (by simp[*];rfl) (by first|rfl|(simp[*,Qu];done)|(simp only[XY,Qu];(repeat' split)<;>first|rfl|(exfalso;omega)|simp_all)) (by simp))
 (try simp only[BN]at h2);refine X2 ?_;refine(X9 rfl (fun h6=>?_) (fun h6=>?_))
 · (try simp only[BN]at h6);refine X2 ?_;exact(XE (fun h=>⟨.inr rfl,h⟩) _ (by simp[*];rfl) (by first|rfl|(simp[*,Qu];done)|(simp only[XY,Qu];(repeat' split)<;>first|rfl|(exfalso;omega)|simp_all)) (by simp))
 (try simp only[BN]at h6);refine X2 ?_;refine(X9 rfl (fun h10=>?_) (fun h10=>?_))
 · (try simp only[BN]at h10);refine X2 ?_;exact(XE (fun h=>⟨.inr rfl,h⟩) _ (by simp[*];rfl) (by first|rfl|(simp[*,Qu];done)|(simp only[XY,Qu];(repeat' split)<;>first|rfl|(exfalso;omega)|simp_all)) (by simp))
 (try simp only[BN]at h10);refine X2 ?_;refine(X9 rfl (fun h14=>?_) (fun h14=>?_))
 · (try simp only[BN]at h14);refine X2 ?_;exact(XE (fun h=>⟨.inr rfl,h⟩) _ (by simp[*];rfl) (by first|rfl|(simp[*,Qu];done)|(simp only[XY,Qu];(repeat' split)<;>first|rfl|(exfalso;omega)|simp_all)) (by simp))
 (try simp only[BN]at h14);refine X2 ?_;refine(Xb rfl (fun h18=>?_) fun h18=>?_)
 · (try simp only[BN]at h18);refine X2 ?_;exact(XE (fun h=>⟨.inr rfl,h⟩) _ (by simp[*];rfl) (by first|rfl|(simp[*,Qu];done)|(simp only[XY,Qu];(repeat' split)<;>first|rfl|(exfalso;omega)|simp_all)) (by simp))
 (try simp only[BN]at h18);refine X2 ?_;exact(XE (fun h=>⟨.inr rfl,h⟩) _ (by simp[*];rfl) (by first|rfl|(simp[*,Qu];done)|(simp only[XY,Qu];(repeat' split)<;>first|rfl|(exfalso;omega)|simp_all)) (by simp))
theorem WR (n:Int) (b:Bool) (d:Nat):Con Tryz.prog 113 true [.one (.c (.ptr [iC n,bC b]))] (.v (lb (b||decide (1024<n)))) none d:=by
 refine X4 Tryz.func113 ?_;simp only[Tryz.f113];refine X2 ?_;refine X2 ?_;exact Xf
def chOk (s:ByteArray) (i:Nat):Bool:=
 match s[i]? with
 |some b=>(decide (97≤(b.toNat:Int))&&decide ((b.toNat:Int)≤122))||(decide (i≠0)&&((decide (48≤(b.toNat:Int))&&decide ((b.toNat:Int)≤57))||decide ((b.toNat:Int)=46)||decide ((b.toNat:Int)=95)))
 |none=>false
def X12 (s:ByteArray):Bool:=decide (1≤s.size)&&decide (s.size≤40)&&(List.range s.size).all (chOk s)
theorem XaY {s:ByteArray} {k:Nat} (h:k<s.size):∃b,s[k]? =some b:=⟨s[k],by simp[h]⟩
theorem X8j {s:ByteArray}:s=⟨#[]⟩↔s.size=0:=by
 obtain⟨a⟩:=s;constructor
 · intro h;cases h;rfl
 intro h;have:a= #[]:=Array.eq_empty_of_size_eq_zero h;rw[this]
theorem XaP {s:ByteArray} {k:Nat} (hk:k<s.size) (h:chOk s k=false):X12 s=false:=by
 unfold X12;rw[Bool.and_eq_false_iff];refine .inr ?_;rw[List.all_eq_false];exact⟨k,by simpa using hk,by simp[h]⟩
theorem X9w {s:ByteArray} (h1:1≤s.size) (h2:s.size≤40) (h:∀j:Nat,j<s.size→chOk s j=true):X12 s=true:=by
 unfold X12;simp only[h1,h2,decide_true,Bool.true_and,List.all_eq_true,List.mem_range];exact h
theorem X1y (s:ByteArray) (d:Nat):Con Tryz.prog 179 true [sv s] (.v (lb (X12 s))) none d:=by
 refine X4 Tryz.func179 ?_;simp only[Tryz.f179];refine X2 ?_;refine X0<|X0<|X1 ?_;refine(Xb rfl (fun h2=>?_) fun h2=>?_)
 · try simp only[BN]at h2
   have hz:X12 s=false:=by
    unfold X12;simp only[X8j]at h2;rw[Bool.and_eq_false_iff,Bool.and_eq_false_iff];simp only[decide_eq_false_iff_not];omega
   refine X2 ?_;exact Xf
 (try simp only[BN]at h2);simp only[X8j]at h2;have h1:1≤s.size:=by omega
 have h40:s.size≤40:=by omega
 refine X0<|X0<|X1 ?_;refine X3<|(Xe [0,14] (fun(x:Nat)=>[(15,.v (li x))]) (fun x=>[]) (fun x=>x≤s.size∧∀j:Nat,j<x→chOk s j=true) (fun x=>s.size - x) (0:Nat) ⟨Nat.zero_le _,fun j hj=>absurd hj (Nat.not_lt_zero j)⟩ ?_ ?_)
 · exact X5 (fun n=>n) []
 rintro k ⟨hk,hall⟩;simp only[upS,X6,XL]
 try simp only[X6,KN,Nat.reduceBEq,if_true,if_false,ins,Nat.reduceLT]
 refine X2 ?_;refine X0<|(X9 rfl (fun h8=>Xd ?_) (fun h8=>?_))
 · (try simp only[BN]at h8);have hlt:k<s.size:=by omega
   obtain⟨b,hb⟩:=XaY hlt;have hw:=XN hlt (by omega);have hk1:k+1≤s.size:=hlt;clear hlt h8;refine X0<|X3<|X0<|X1 ?_;refine X2 ?_;refine X2 ?_;refine X2 ?_;refine(Xb rfl (fun h13=>?_) fun h13=>?_)
   · try simp only[BN]at h13
     have hbad:chOk s k=false:=by
      unfold chOk;rw[hb];simp only[Bool.or_eq_false_iff,Bool.and_eq_false_iff,decide_eq_false_iff_not];omega
     have hz:=XaP hk1 hbad;refine X2 ?_;exact Xf
   try simp only[BN]at h13
   have hgood:chOk s k=true:=by
    unfold chOk;rw[hb];simp only[Bool.or_eq_true,Bool.and_eq_true,decide_eq_true_eq];omega
   refine X1 ?_;exact⟨k+1,⟨by omega,fun j hj=>(Nat.lt_succ_iff_lt_or_eq.1 hj).elim (hall j) (fun e=>e▸hgood)⟩,by omega,X5 (fun n=>n) []⟩
 (try simp only[BN]at h8);have hz:=X9w h1 h40 (fun j hj=>hall j (by omega));refine(Xi ?_);refine X2 ?_;exact Xf
end Go.Proofs.YtdajceakaakdoaaGreat

namespace Go.Proofs.YtdajceakaakdoaaGreat
open Go Go.Hl
mutual
def Tm.nodes:Tm→Nat
 | .mk _ _ ks=>1+QA ks
def QA:List Tm→Nat
 |[]=>0
 |t::l=>t.nodes+QA l
end
mutual
def St.nodes:St→Nat
 | .mk _ _ _ _ t a b bs=>1+t.nodes+Xs a+Xs b
def Xs:List St→Nat
 |[]=>0
 |s::l=>s.nodes+Xs l
end
theorem Xai (t:Tm):1≤t.nodes:=by cases t;simp[Tm.nodes]
theorem X8G (t:St):1≤t.nodes:=by cases t;simp[St.nodes];omega
theorem ZD:∀l:List Tm,l.length≤QA l
 |[]=>by simp[QA]
 |t::l=>by have:=ZD l;have:=Xai t;simp only[QA,List.length_cons];omega
theorem WP:∀l:List St,l.length≤Xs l
 |[]=>by simp[Xs]
 |t::l=>by have:=WP l;have:=X8G t;simp only[Xs,List.length_cons];omega
mutual
def mTm:Tm→Int→Int×Bool→Int×Bool
 | .mk _ _ ks,dep,s=>if((s.2||decide (12<dep))||decide (1024<s.1+1))=true then(s.1+1,s.2||decide (12<dep))else X2U ks (dep+1) (s.1+1,s.2||decide (12<dep))
def X2U:List Tm→Int→Int×Bool→Int×Bool
 |[],_,s=>s
 |t::l,dep,s=>X2U l dep (mTm t dep s)
end
mutual
theorem X0L:∀(t:Tm) (dep:Int) (s:Int×Bool),s.1≤(mTm t dep s).1∧(mTm t dep s).1≤s.1+t.nodes
 | .mk o n ks,dep,s=>by
   have:=X9K ks (dep+1) (s.1+1,s.2||decide (12<dep));simp only[mTm,Tm.nodes];split
   · simp only;omega
   simp only at this;omega
theorem X9K:∀(l:List Tm) (dep:Int) (s:Int×Bool),s.1≤(X2U l dep s).1∧(X2U l dep s).1≤s.1+QA l
 |[],dep,s=>by simp[X2U,QA]
 | t::l,dep,s=>by
   have h1:=X0L t dep s;have h2:=X9K l dep (mTm t dep s);simp only[X2U,QA];omega
end
theorem X66 (t:Tm):∀(dep c:Int) (b:Bool),0≤dep→0≤c→c+t.nodes≤1000000000→
  X7J Tryz.prog 114 [iC c,bC b] [aT t,li dep] (.tup []) [iC (mTm t dep (c,b)).1,bC (mTm t dep (c,b)).2]:=by
 induction t using Tm.ind with
 |h o n ks ih=>
 intro dep c b hdep hc hn;simp only[Tm.nodes]at hn;obtain⟨res,hres⟩:∃r,mTm (.mk o n ks) dep (c,b)=r:=⟨_,rfl⟩;rw[hres];simp only[mTm]at hres;have hlen:=ZD ks;have hw:IntKind.i64.wrap (c+1)=c+1:=Xc (by omega) (by omega);refine X2y Tryz.func114 rfl (by kernel_rfl) (Nat.le_of_ble_eq_true rfl) ?_;simp only[Tryz.f114,aT,Tm.enc];refine X2 ?_;refine X2 ?_;refine X2 ?_;refine X0<|X0<|(Xm [⟨true,.v (lb ((b||decide (12<dep))||decide (1024<c+1))),none⟩] ?_ ?_)
 · first|exact WR _ _ _|exact trivial|simpa[*]using WR _ _ _
 refine(Xb rfl (fun h4=>?_) fun h4=>?_)
 · (try simp only[BN]at h4);rw[if_pos (by simpa using h4)]at hres;subst hres;exact Qf (⟨.inr rfl,_,le_refl _,⟨_,by simp[*];rfl,by simp[XY]⟩,by simp[*]⟩)
 (try simp only[BN]at h4);rw[if_neg (by simpa using h4)]at hres;have hdep2:dep≤12:=by omega
 have hwd:IntKind.i64.wrap (dep+1)=dep+1:=Xc (by omega) (by omega);refine X2 ?_;refine X3<|(Xe [0,2,29,30] (fun(x:Nat×Int×Bool)=>[(31,.v (li x.1))]) (fun x=>[(1000000,.box [.c (iC x.2.1),.c (bC x.2.2)])]) (fun x=>x.1≤ks.length∧X2U (ks.drop x.1) (dep+1) x.2=res∧0≤x.2.1∧x.2.1+QA (ks.drop x.1)≤1000000000) (fun x=>ks.length - x.1) (0,c+1,b||decide (12<dep)) ⟨Nat.zero_le _,hres,by simp only;omega,by simp only[List.drop_zero];omega⟩ ?_ ?_)
 · exact X5 (fun n=>n) []
 rintro⟨k,m,q⟩ ⟨hk,hJ,hm,hb⟩;simp only[upS,X6,XL]
 try simp only[X6,KN,Nat.reduceBEq,if_true,if_false,ins,Nat.reduceLT]
 simp only at hk hJ hm hb;refine X2 ?_;refine X0<|(X9 rfl (fun h9=>Xd ?_) (fun h9=>?_))
 · (try simp only[BN]at h9);have hlt:k<ks.length:=by omega
   obtain⟨⟨eo,en,ek⟩,he,hd⟩:=Xr hlt;have he':=X14 he;simp only[Tm.enc]at he';have hw1:=XN hlt (by omega);rw[hd]at hJ hb;simp only[X2U,QA]at hJ hb;have hk1:k+1≤ks.length:=hlt;have hmem:Tm.mk eo en ek∈ks:=List.mem_of_getElem? he;have hle:=X0L (.mk eo en ek) (dep+1) (m,q);clear hlt h9;refine X0<|X3<|X0<|X1 ?_;refine(X0t 4 (.tup []) ([iC (mTm (.mk eo en ek) (dep+1) (m,q)).1,bC (mTm (.mk eo en ek) (dep+1) (m,q)).2]) rfl (by simp[*];rfl) (by simp[ioOf, *];first|exact⟨rfl,rfl,rfl,rfl,rfl⟩|exact⟨rfl,rfl,rfl,rfl⟩|exact⟨rfl,rfl,rfl⟩|exact⟨rfl,rfl⟩|rfl) (ih _ hmem (dep+1) m q (by omega) hm (by omega)) (by simp) (by simp[*];rfl) ?_);refine X1 ?_;exact⟨(k+1,mTm (.mk eo en ek) (dep+1) (m,q)),⟨hk1,hJ,by simp only at hle⊢;omega,by simp only at hle⊢;omega⟩,by simp only;omega,X5 (fun n=>n) []⟩
 (try simp only[BN]at h9);have hkl:k=ks.length:=by omega
 subst hkl;rw[List.drop_length]at hJ;simp only[X2U]at hJ;subst hJ;refine(Xi ?_);exact(⟨.inl rfl,_,le_refl _,⟨_,by simp[*];rfl,by simp[XY]⟩,by simp[*]⟩)
end Go.Proofs.YtdajceakaakdoaaGreat

namespace Go.Proofs.YtdajceakaakdoaaGreat
open Go Go.Hl
def X0S (k:List (Int×Int)):List (List CD):=k.map fun p=>[iC p.1,iC p.2]
@[simp] theorem len_encP (k:List (Int×Int)):(X0S k).length=k.length:=by simp[X0S]
@[simp] theorem get_encP (k:List (Int×Int)) (i:Nat):(X0S k)[i]? =k[i]?.map fun p=>[iC p.1,iC p.2]:=by simp[X0S]
@[simp] theorem encP_nil:X0S []=[]:=rfl
abbrev aP (p:Int×Int):TV:=.agg [.c (iC p.1),.c (iC p.2)]
def mn (a b:Int):Int:=if b<a then b else a
def mx (a b:Int):Int:=if a<b then b else a
def ZN (p q:Int×Int):Int×Int:=(mn p.1 q.1,mx p.2 q.2)
def X4Z:List (Int×Int)→Int×Int→Int×Int
 |[],p=>p
 |q::l,p=>X4Z l (ZN p q)
def mulP (a b:Int×Int):Int×Int:=ZN (ZN (ZN (a.1*b.1,a.1*b.1) (a.1*b.2,a.1*b.2)) (a.2*b.1,a.2*b.1)) (a.2*b.2,a.2*b.2)
def bnd (p:Int×Int):Prop:=-1048576≤p.1∧p.1≤p.2∧p.2≤1048576
theorem X2l (p q:Int×Int) (d:Nat):Con Tryz.prog 264 true [aP p,aP q] (.v (aP (ZN p q))) none d:=by
 refine X4 Tryz.func264 ?_;simp only[Tryz.f264];refine X2 ?_;refine X2 ?_;exact(XE (fun h=>⟨.inr rfl,h⟩) _ (by simp[*];rfl) (by simp[XY,ZN,mn,mx]) (by simp))
theorem mul_le {x y:Int} (hx:-1048576≤x∧x≤1048576) (hy:-1048576≤y∧y≤1048576):-1099511627776≤x*y∧x*y≤1099511627776:=by
 have h1:x.natAbs≤1048576:=by omega
 have h2:y.natAbs≤1048576:=by omega
 have h3:=Nat.mul_le_mul h1 h2;rw[←Int.natAbs_mul]at h3;omega
theorem X2m (x y:Int) (hx:-1048576≤x∧x≤1048576) (hy:-1048576≤y∧y≤1048576) (d:Nat):Con Tryz.prog 263 true [li x,li y] (.v (li (x*y))) none d:=by
 have hm:=mul_le hx hy;have hw:IntKind.i64.wrap (x*y)=x*y:=Xc (by omega) (by omega);refine X4 Tryz.func263 ?_;simp only[Tryz.f263];refine X2 ?_;refine X2 ?_;exact Xf
def X7T:List Int→Int×Int→Int×Int
 |[],p=>p
 |q::l,p=>X7T l (ZN p (q,q))
theorem X3O (a b:Int×Int) (ha:bnd a) (hb:bnd b) (d:Nat):Con Tryz.prog 262 true [aP a,aP b,.one (.fn 263 [])] (.v (aP (mulP a b))) none d:=by
 obtain⟨a1,a2⟩:=a;obtain⟨b1,b2⟩:=b;simp only[bnd]at ha hb;refine X4 Tryz.func262 ?_;simp only[Tryz.f262];obtain⟨L,hL⟩:∃L,L=[a1*b2,a2*b1,a2*b2]:=⟨_,rfl⟩;have hlen:L.length=3:=by rw[hL];rfl
 obtain⟨res,hres⟩:∃res,mulP (a1,a2) (b1,b2)=res:=⟨_,rfl⟩;rw[hres];have hres2:X7T L (a1*b1,a1*b1)=res:=by rw[←hres,hL];rfl
 clear hres;refine X2 ?_;refine Xp [⟨true,.v (li (a1*b1)),none⟩] ?_ ?_
 · first|exact X2m _ _ (by omega) (by omega) _|exact trivial|simpa[*]using X2m _ _ (by omega) (by omega) _
 refine X2 ?_;refine X0<|X0<|(Z2 [⟨true,.v (li (a1*b2)),none⟩,⟨true,.v (li (a2*b1)),none⟩,⟨true,.v (li (a2*b2)),none⟩] (by kernel_rfl) (by kernel_rfl) (by rfl) (by simp[*];first|exact⟨rfl,Iff.rfl⟩|exact⟨rfl,trivial⟩|rfl) ?_ ?_)
 · first|exact trivial|exact trivial|(repeat' first|exact trivial|exact X2m _ _ (by omega) (by omega) _|exact X2m _ _ (by omega) (by omega) _|exact X2m _ _ (by omega) (by omega) _|apply And.intro)
 refine X3<|(Xe [6,8,38,39] (fun(x:Nat×Int×Int)=>[(40,.v (li x.1))]) (fun x=>[(6,.box [.c (iC 0),.c (iC 0)]),(8,.box [.c (iC x.2.1),.c (iC x.2.2)]),(38,.row 3 1 (Xg L))]) (fun x=>x.1≤3∧X7T (L.drop x.1) x.2=res) (fun x=>3 - x.1) (0,a1*b1,a1*b1) ⟨Nat.zero_le _,hres2⟩ ?_ ?_)
 · exact Xy (fun n=>n) [] rfl (by simp[*,upS,X6]) (by simp[upS,Xg,hL]) (by simp[upS])
 rintro⟨k,m,q⟩ ⟨hk,hJ⟩;simp only[upS,X6,XL]
 try simp only[X6,KN,Nat.reduceBEq,if_true,if_false,ins,Nat.reduceLT]
 simp only at hk hJ;clear hres2 hL;refine X2 ?_;refine X0<|(X9 rfl (fun h6=>Xd ?_) (fun h6=>?_))
 · (try simp only[BN]at h6);have hlt:k<L.length:=by omega
   obtain⟨e,he,hd⟩:=Xr hlt;have hw1:=XN hlt (by omega);rw[hd]at hJ;simp only[X7T]at hJ;have hk1:k+1≤3:=by omega
   clear hlt h6;refine X0<|X3<|X0<|X1 ?_;refine(Xm [⟨true,.v (aP (ZN (m,q) (e,e))),none⟩] ?_ ?_)
   · first|exact X2l (m,q) (e,e) _|exact trivial|simpa[*]using X2l (m,q) (e,e) _
   refine X1 ?_;exact⟨(k+1,ZN (m,q) (e,e)),⟨hk1,hJ⟩,by simp only;omega,X5 (fun n=>n) []⟩
 (try simp only[BN]at h6);have hkl:k=L.length:=by omega
 rw[hkl,List.drop_length]at hJ;simp only[X7T]at hJ;refine(Xi ?_);refine X2 ?_;exact(XE (fun h=>⟨.inr rfl,h⟩) _ (by simp[*];rfl) (by subst hJ;rfl) (by simp))
end Go.Proofs.YtdajceakaakdoaaGreat

namespace Go.Proofs.YtdajceakaakdoaaGreat
open Go Go.Hl
def X3k (vars:List Vr) (inp:Bool) (n:Int):Bool:=
 decide (0≤n)&&match vars[n.toNat]? with
  |some v=> !(inp&&decide (v.kind=0))
  |none=>false
def QT (vars:List Vr) (inp:Bool) (o n:Int) (len:Nat):Bool:=
 (!decide ((Qu o).1<0)&&(!decide ((len:Int)<(Qu o).1)&& !decide ((Qu o).2<(len:Int))))&&(if o=0 then true else if o=24 then X3k vars inp n else decide (n=0))
mutual
def Wq (vars:List Vr) (inp:Bool):Tm→Bool
 | .mk o n ks=>QT vars inp o n ks.length&&Zj vars inp ks
def Zj (vars:List Vr) (inp:Bool):List Tm→Bool
 |[]=>true
 |t::l=>Wq vars inp t&&Zj vars inp l
end
theorem X28 {vars:List Vr} {inp:Bool}:∀{l:List Tm},Zj vars inp l=true→∀t∈l,Wq vars inp t=true
 |[],_,t,ht=>by cases ht
 | a::l,h,t,ht=>by
   simp only[Zj,Bool.and_eq_true]at h;rcases List.mem_cons.1 ht with rfl|h1
   · exact h.1
   exact X28 h.2 t h1
theorem X8g {vars:List Vr} {n:Int}:(0≤n∧n<vars.length)→∃v,vars[n.toNat]? =some v:=by
 rintro⟨h1,h2⟩;have:n.toNat<vars.length:=by omega
 exact⟨vars[n.toNat],by simp[this]⟩
theorem X5a {vars:List Vr} {n:Int} (h1:0≤n) (h2:¬n<vars.length):vars[n.toNat]? =none:=by
 rw[List.getElem?_eq_none];omega
theorem Xan (vars:List Vr) (inp:Bool) (hv:vars.length≤1000000000) (t:Tm):t.nodes≤1000000000→∀d:Nat,
  Con Tryz.prog 220 true [lV vars,aT t,lb inp] (.v (lb (Wq vars inp t))) none d:=by
 induction t using Tm.ind with
 |h o n ks ih=>
 intro hn d;simp only[Tm.nodes]at hn;have hlen:=ZD ks;obtain⟨res,hres⟩:∃r,Wq vars inp (.mk o n ks)=r:=⟨_,rfl⟩;rw[hres];simp only[Wq]at hres
 have ih':∀t∈ks,∀d,Con Tryz.prog 220 true [lV vars,aT t,lb inp] (.v (lb (Wq vars inp t))) none d:=by
  intro t ht d;refine ih t ht ?_ d
  have:t.nodes≤QA ks:=by
   clear hres ih hn hlen
   induction ks with
   |nil=>cases ht
   | cons a l ih=>
     simp only[QA];rcases List.mem_cons.1 ht with rfl|h
     · omega
     have:=ih h;omega
  omega
 clear ih;refine X4 Tryz.func220 ?_;simp only[Tryz.f220];simp only[aT,Tm.enc];refine X2 ?_;refine Xp [⟨true,.tup [li (Qu o).1,li (Qu o).2],none⟩] ?_ ?_
 · first|exact X5X o _|exact trivial|simpa[*]using X5X o _
 refine X0<|X0<|X1 ?_;refine(Xb rfl (fun h3=>?_) fun h3=>?_)
 · try simp only[BN]at h3
   have hz:QT vars inp o n ks.length=false:=by
    unfold QT;rw[Bool.and_eq_false_iff];refine .inl ?_;simp only[Bool.and_eq_false_iff,Bool.not_eq_false',decide_eq_true_eq];omega
   rw[hz,Bool.false_and]at hres;refine X2 ?_;exact(XE (fun h=>⟨.inr rfl,h⟩) _ (by simp[*];rfl) (by first|rfl|simp[*]) (by simp))
 try simp only[BN]at h3
 have hz:(!decide ((Qu o).1<0)&&(!decide ((ks.length:Int)<(Qu o).1)&& !decide ((Qu o).2<(ks.length:Int))))=true:=by
  simp only[Bool.and_eq_true,Bool.not_eq_true',decide_eq_false_iff_not];omega
 refine(Qe [0,2,4] (fun(z:Unit)=>[]) (fun(z:Unit)=>[(4,.box [.c (iC o),.c (iC n),.c (.sl 3 (XS ks))])]) (fun(z:Unit)=>QT vars inp o n ks.length=true) ?_ ?_)
 ·
  refine X2 ?_;refine X3<|X0<|X1 ?_;refine(X9 rfl (fun h9=>Xd ?_) (fun h9=>?_))
  · (try simp only[BN]at h9);exact⟨(),by unfold QT;rw[hz,Bool.true_and,if_pos h9],X5 (fun n=>n) []⟩
  (try simp only[BN]at h9);refine X2 ?_;refine(X9 rfl (fun h12=>?_) (fun h12=>?_))
  · (try simp only[BN]at h12);by_cases hn0:0≤n
    · by_cases hn3:n<vars.length
      · obtain⟨v,hv1⟩:=X8g ⟨hn0,hn3⟩;have hn1:¬(vars.length:Int)≤n:=by omega
        have hn2:¬n<0:=by omega
        clear hn3;refine X2 ?_;refine(Xb rfl (fun h14=>?_) fun h14=>?_)
        · try simp only[BN]at h14
          have hz3:QT vars inp o n ks.length=false:=by
           unfold QT X3k;rw[hz,Bool.true_and,if_neg h9,if_pos h12,hv1];simp[h14]
          rw[hz3,Bool.false_and]at hres;refine X2 ?_;exact(XE (fun h=>⟨.inr rfl,h⟩) _ (by simp[*];rfl) (by first|rfl|simp[*]) (by simp))
        try simp only[BN]at h14
        exact⟨(),by
         unfold QT X3k;rw[hz,Bool.true_and,if_neg h9,if_pos h12,hv1];simp only[Bool.and_eq_true,Bool.not_eq_true',Bool.and_eq_false_iff,decide_eq_true_eq,decide_eq_false_iff_not]
         exact⟨hn0,h14⟩,X5 (fun n=>n) []⟩
      cases inp
      · have hv1:=X5a hn0 hn3;have hn1:(vars.length:Int)≤n:=by omega
        have hn2:¬n<0:=by omega
        have hz2:∀i,X3k vars i n=false:=by intro i;simp[X3k,hv1]
        clear hn3;refine X2 ?_;refine(Xb rfl (fun h14=>?_) fun h14=>?_)
        · try simp only[BN]at h14
          have hz3:∀i,QT vars i o n ks.length=false:=by
           intro i;unfold QT;rw[hz,Bool.true_and,if_neg h9,if_pos h12,hz2]
          rw[hz3,Bool.false_and]at hres;refine X2 ?_;exact(XE (fun h=>⟨.inr rfl,h⟩) _ (by simp[*];rfl) (by first|rfl|simp[*]) (by simp))
        exact absurd h14 (by simp)
      have hv1:=X5a hn0 hn3;have hn1:(vars.length:Int)≤n:=by omega
      have hn2:¬n<0:=by omega
      have hz2:∀i,X3k vars i n=false:=by intro i;simp[X3k,hv1]
      clear hn3;refine X2 ?_;refine(Xb rfl (fun h14=>?_) fun h14=>?_)
      · try simp only[BN]at h14
        have hz3:∀i,QT vars i o n ks.length=false:=by
         intro i;unfold QT;rw[hz,Bool.true_and,if_neg h9,if_pos h12,hz2]
        rw[hz3,Bool.false_and]at hres;refine X2 ?_;exact(XE (fun h=>⟨.inr rfl,h⟩) _ (by simp[*];rfl) (by first|rfl|simp[*]) (by simp))
      exact absurd h14 (by simp)
    cases inp
    · have hn2:n<0:=by omega
      have hz2:∀i,X3k vars i n=false:=by intro i;simp[X3k,hn0]
      refine X2 ?_;refine(Xb rfl (fun h14=>?_) fun h14=>?_)
      · try simp only[BN]at h14
        have hz3:∀i,QT vars i o n ks.length=false:=by
         intro i;unfold QT;rw[hz,Bool.true_and,if_neg h9,if_pos h12,hz2]
        rw[hz3,Bool.false_and]at hres;refine X2 ?_;exact(XE (fun h=>⟨.inr rfl,h⟩) _ (by simp[*];rfl) (by first|rfl|simp[*]) (by simp))
      exact absurd h14 (by simp)
    have hn2:n<0:=by omega
    have hz2:∀i,X3k vars i n=false:=by intro i;simp[X3k,hn0]
    refine X2 ?_;refine(Xb rfl (fun h14=>?_) fun h14=>?_)
    · try simp only[BN]at h14
      have hz3:∀i,QT vars i o n ks.length=false:=by
       intro i;unfold QT;rw[hz,Bool.true_and,if_neg h9,if_pos h12,hz2]
      rw[hz3,Bool.false_and]at hres;refine X2 ?_;exact(XE (fun h=>⟨.inr rfl,h⟩) _ (by simp[*];rfl) (by first|rfl|simp[*]) (by simp))
    exact absurd h14 (by simp)
  (try simp only[BN]at h12);refine X2 ?_;refine(Xb rfl (fun h19=>?_) fun h19=>?_)
  · try simp only[BN]at h19
    have hz3:QT vars inp o n ks.length=false:=by
     unfold QT;rw[hz,Bool.true_and,if_neg h9,if_neg h12];simpa using h19
    rw[hz3,Bool.false_and]at hres;refine X2 ?_;exact(XE (fun h=>⟨.inr rfl,h⟩) _ (by simp[*];rfl) (by first|rfl|simp[*]) (by simp))
  try simp only[BN]at h19
  exact⟨(),by
   unfold QT;rw[hz,Bool.true_and,if_neg h9,if_neg h12]
   simpa using h19,X5 (fun n=>n) []⟩
 rintro z hz;simp only[upS,X6,XL]
 try simp only[X6,KN,Nat.reduceBEq,if_true,if_false,ins,Nat.reduceLT]
 rw[hz,Bool.true_and]at hres;refine X0<|X0<|X1 ?_;refine X3<|(Xe [0,2,65,66] (fun(x:Nat)=>[(67,.v (li x))]) (fun x=>[]) (fun x=>x≤ks.length∧Zj vars inp (ks.drop x)=res) (fun x=>ks.length - x) (0:Nat) ⟨Nat.zero_le _,hres⟩ ?_ ?_)
 · exact X5 (fun n=>n) []
 rintro k ⟨hk,hJ⟩;simp only[upS,X6,XL]
 try simp only[X6,KN,Nat.reduceBEq,if_true,if_false,ins,Nat.reduceLT]
 refine X2 ?_;refine X0<|(X9 rfl (fun h26=>Xd ?_) (fun h26=>?_))
 · (try simp only[BN]at h26);have hlt:k<ks.length:=by omega
   obtain⟨⟨eo,en,ek⟩,he,hd⟩:=Xr hlt;have he':=X14 he;simp only[Tm.enc]at he';have hw1:=XN hlt (by omega);rw[hd]at hJ;simp only[Zj]at hJ;have hk1:k+1≤ks.length:=hlt;have hmem:Tm.mk eo en ek∈ks:=List.mem_of_getElem? he;clear hlt h26;refine X0<|X3<|X0<|X1 ?_;refine Xp [⟨true,.v (lb (Wq vars inp (.mk eo en ek))),none⟩] ?_ ?_
   · first|exact ih' _ hmem _|exact trivial|simpa[*]using ih' _ hmem _
   refine(Xb rfl (fun h29=>?_) fun h29=>?_)
   · (try simp only[BN]at h29);rw[h29,Bool.false_and]at hJ;subst hJ;refine X2 ?_;exact(XE (fun h=>⟨.inr rfl,h⟩) _ (by simp[*];rfl) (by first|rfl|simp[*]) (by simp))
   (try simp only[BN]at h29);rw[h29,Bool.true_and]at hJ;refine X1 ?_;exact⟨k+1,⟨hk1,hJ⟩,by omega,X5 (fun n=>n) []⟩
 (try simp only[BN]at h26);have hkl:k=ks.length:=by omega
 subst hkl;rw[List.drop_length]at hJ;simp only[Zj]at hJ;subst hJ;refine(Xi ?_);refine X2 ?_;exact(XE (fun h=>⟨.inr rfl,h⟩) _ (by simp[*];rfl) (by first|rfl|simp[*]) (by simp))
end Go.Proofs.YtdajceakaakdoaaGreat

namespace Go.Proofs.YtdajceakaakdoaaGreat
open Go Go.Hl
theorem X5P {ks:List Tm} {t:Tm} (ht:t∈ks):t.nodes≤QA ks:=by
 induction ks with
 |nil=>cases ht
 | cons a l ih=>
   simp only[QA];rcases List.mem_cons.1 ht with rfl|h
   · omega
   have:=ih h;omega
end Go.Proofs.YtdajceakaakdoaaGreat

namespace Go.Proofs.YtdajceakaakdoaaGreat
open Go Go.Hl
theorem St.lists {P:List St→Prop} (h:∀l,(∀s∈l,P s.then_∧P s.else_)→P l):∀l,P l:=by
 have key:∀s:St,P s.then_∧P s.else_:=by
  intro s
  induction s using St.ind with
  |h d c v n t a b bs iha ihb=>exact⟨h a iha,h b ihb⟩
 exact fun l=>h l fun s _=>key s
theorem ZF {l:List St} {s:St} (hs:s∈l):1+s.term.nodes+Xs s.then_+Xs s.else_≤Xs l:=by
 induction l with
 |nil=>cases hs
 | cons x l ih=>
   simp only[Xs];rcases List.mem_cons.1 hs with rfl|h
   · obtain⟨d,c,v,n,t,a,b,bs⟩:=s;simp only[St.nodes,St.term,St.then_,St.else_];omega
   have:=ih h;omega
def QO (n lo hi:Int):Int:=if n<lo then lo else if hi<n then hi else n
theorem X64 (n lo hi:Int) (h:lo≤hi) (d:Nat):Con Tryz.prog 229 true [li n,li lo,li hi] (.v (li (QO n lo hi))) none d:=by
 have hz:QO n lo hi=if hi<(if n<lo then lo else n)then hi else(if n<lo then lo else n):=by
  unfold QO
  (repeat' split)<;>omega
 refine X4 Tryz.func229 ?_;simp only[Tryz.f229];refine X2 ?_;refine X2 ?_;exact Xf
theorem X4i {n lo hi:Int} (h:lo≤hi):lo≤QO n lo hi∧QO n lo hi≤hi:=by
 unfold QO
 (repeat' split)<;>omega
def X2Q (m c:Int):Int:=if 0<m then c else 0
mutual
def spS:St→Int×Int
 | .mk d c _ n (.mk o tn _) a b _=>
   if d=3 then(QO c 0 67108865+mn (spL a (0,0)).1 (spL b (0,0)).1,QO c 0 67108865+mx (spL a (0,0)).2 (spL b (0,0)).2)
   else if d=4 then
    (if o≠0 then(X2Q (QO n 0 4096) (QO c 0 67108865),QO n 0 4096*(QO c 0 67108865+(spL a (0,0)).2))
     else if tn≠0 then(QO n 0 4096*(QO c 0 67108865+(spL a (0,0)).1),QO n 0 4096*(QO c 0 67108865+(spL a (0,0)).2))
     else(X2Q (QO n 0 4096) (QO c 0 67108865),X2Q (QO n 0 4096) (QO c 0 67108865)))
   else(QO c 0 67108865,QO c 0 67108865)
def spL:List St→Int×Int→Int×Int
 |[],p=>p
 |s::l,p=>spL l (mn (p.1+(spS s).1) 67108865,mn (p.2+(spS s).2) 67108865)
end
theorem mulT {m z:Int} (hm:0≤m∧m≤4096) (hz:0≤z∧z≤134217730):0≤m*z∧m*z≤549755822080:=by
 have h1:m.natAbs*z.natAbs≤4096*134217730:=Nat.mul_le_mul (by omega) (by omega);rw[←Int.natAbs_mul]at h1;have h2:=Int.mul_nonneg hm.1 hz.1;omega
def inT (p:Int×Int):Prop:=0≤p.1∧p.1≤67108865∧0≤p.2∧p.2≤67108865
def inU (p:Int×Int):Prop:=0≤p.1∧p.1≤549755822080∧0≤p.2∧p.2≤549755822080
theorem inT0:inT (0,0):=⟨by decide,by decide,by decide,by decide⟩
theorem X9V {m c:Int} (hc:0≤c∧c≤67108865):0≤X2Q m c∧X2Q m c≤67108865:=by
 unfold X2Q;split<;>omega
theorem mn_in {a:Int} (h:0≤a):0≤mn a 67108865∧mn a 67108865≤67108865:=by
 unfold mn;split<;>omega
mutual
theorem spS_in:∀s:St,inU (spS s)
 | .mk d c v n (.mk o tn ks) a b bs=>by
   have ha:=X5h a (0,0) inT0;have hb:=X5h b (0,0) inT0;have hc:=X4i (n:=c) (lo:=0) (hi:=67108865) (by decide);have hn:=X4i (n:=n) (lo:=0) (hi:=4096) (by decide);have ho:=X9V (m:=QO n 0 4096) hc;unfold inT at ha hb;have h1:=mulT hn (z:=QO c 0 67108865+(spL a (0,0)).1) (by omega);have h2:=mulT hn (z:=QO c 0 67108865+(spL a (0,0)).2) (by omega);unfold inU;simp only[spS];split
   · simp only[mn,mx]
     (repeat' split)<;>omega
   split
   · split
     · simp only;omega
     split
     · simp only;omega
     simp only;omega
   simp only;omega
theorem X5h:∀(l:List St) (p:Int×Int),inT p→inT (spL l p)
 |[],p,h=>h
 | s::l,p,h=>by
   have hs:=spS_in s;simp only[spL];refine X5h l _ ?_;unfold inT inU at*;have h1:=mn_in (a:=p.1+(spS s).1) (by omega);have h2:=mn_in (a:=p.2+(spS s).2) (by omega);simp only;omega
end
theorem Xaz (l:List St):Xs l≤1000000000→∀d:Nat,Con Tryz.prog 192 true [lS l] (.tup [li (spL l (0,0)).1,li (spL l (0,0)).2]) none d:=by
 revert l
 apply St.lists;intro l ih hn d;have hlen:=WP l;obtain⟨res,hres⟩:∃r,spL l (0,0)=r:=⟨_,rfl⟩;rw[hres];refine X4 Tryz.func192 ?_;simp only[Tryz.f192];refine X2 ?_;refine X0<|X0<|X1 ?_;refine X3<|(Xe [17,18] (fun(x:Nat×Int×Int)=>[(2,.v (li x.2.1)),(3,.v (li x.2.2)),(19,.v (li x.1))]) (fun x=>[]) (fun x=>x.1≤l.length∧spL (l.drop x.1) x.2=res∧inT x.2) (fun x=>l.length - x.1) (0,0,0) ⟨Nat.zero_le _,hres,inT0⟩ ?_ ?_)
 · exact X5 (fun n=>n) []
 rintro⟨k,m,q⟩ ⟨hk,hJ,hin⟩;simp only[upS,X6,XL]
 try simp only[X6,KN,Nat.reduceBEq,if_true,if_false,ins,Nat.reduceLT]
 simp only at hk hJ;unfold inT at hin;simp only at hin;clear hres;refine X2 ?_;refine X0<|(X9 rfl (fun h4=>Xd ?_) (fun h4=>?_))
 · (try simp only[BN]at h4);have hlt:k<l.length:=by omega
   obtain⟨s,he,hd⟩:=Xr hlt;have hmem:s∈l:=List.mem_of_getElem? he;have hnm:=ZF hmem;have iha:=fun h=>(ih s hmem).1 h;have ihb:=fun h=>(ih s hmem).2 h;have hw1:=XN hlt (by omega);have hk1:k+1≤l.length:=hlt;rw[hd]at hJ;simp only[spL]at hJ;have hsin:=spS_in s;obtain⟨pq,hpq⟩:∃pq,spS s=pq:=⟨_,rfl⟩;rw[hpq]at hJ hsin;obtain⟨sd,sc,sv,sn,⟨so,stn,sks⟩,sa,sb,sbs⟩:=s;simp only[St.then_,St.else_,St.term]at iha ihb hnm;have ca:=iha (by omega);have cb:=ihb (by omega);have he':=Qy he;simp only[St.enc,Tm.enc,List.cons_append,List.nil_append]at he';simp only[spS]at hpq;have hxa:=X5h sa (0,0) inT0;have hxb:=X5h sb (0,0) inT0;obtain⟨xa,hxa'⟩:∃x,spL sa (0,0)=x:=⟨_,rfl⟩;obtain⟨xb,hxb'⟩:∃x,spL sb (0,0)=x:=⟨_,rfl⟩;have hci:=X4i (n:=sc) (lo:=0) (hi:=67108865) (by decide);have hni:=X4i (n:=sn) (lo:=0) (hi:=4096) (by decide);obtain⟨cc,hcc⟩:∃x,QO sc 0 67108865=x:=⟨_,rfl⟩;obtain⟨nn,hnn⟩:∃x,QO sn 0 4096=x:=⟨_,rfl⟩;have c1:=X64 sc 0 67108865 (by decide);have c2:=X64 sn 0 4096 (by decide);rw[hxa']at ca hxa hpq;rw[hxb']at cb hxb hpq;rw[hcc]at c1 hci hpq;rw[hnn]at c2 hni hpq;unfold inT at hxa hxb;unfold inU at hsin;clear hlt h4 iha ihb ih hxa' hxb' hcc hnn hmem hnm hd he;refine X0<|X3<|X0<|X1 ?_;refine X0<|(Z2 [⟨true,.v (li cc),none⟩,⟨true,.v (li nn),none⟩] (by kernel_rfl) (by kernel_rfl) (by rfl) (by simp[*];first|exact⟨rfl,Iff.rfl⟩|exact⟨rfl,trivial⟩|rfl) ?_ ?_)
   · first|exact⟨c1 _,c2 _⟩|exact trivial|(repeat' first|exact trivial|exact c1 _|exact c2 _|apply And.intro)
   refine X2 ?_;refine(Qe [2,3,17,18,19] (fun(z:Unit)=>[(8,.v (li pq.1)),(9,.v (li pq.2))]) (fun(z:Unit)=>[]) (fun(z:Unit)=>True) ?_ ?_)
   ·
    refine X2 ?_;refine X3<|X0<|X1 ?_;refine(X9 rfl (fun h11=>?_) (fun h11=>?_))
    · (try simp only[BN]at h11);rw[if_pos h11]at hpq;subst hpq;have hmn:(if xb.1<xa.1 then xb.1 else xa.1)=mn xa.1 xb.1:=rfl;have hmx:(if xa.2<xb.2 then xb.2 else xa.2)=mx xa.2 xb.2:=rfl;have hw2:IntKind.i64.wrap (cc+mn xa.1 xb.1)=cc+mn xa.1 xb.1:=Xc (by simp only at hsin;omega) (by simp only at hsin;omega);have hw3:IntKind.i64.wrap (cc+mx xa.2 xb.2)=cc+mx xa.2 xb.2:=Xc (by simp only at hsin;omega) (by simp only at hsin;omega);clear hsin;refine Xp [⟨true,.tup [li xa.1,li xa.2],none⟩] ?_ ?_
      · first|exact ca _|exact trivial|simpa[*]using ca _
      refine Xp [⟨true,.tup [li xb.1,li xb.2],none⟩] ?_ ?_
      · first|exact cb _|exact trivial|simpa[*]using cb _
      refine X1 ?_;exact⟨(),trivial,X5 (fun n=>n) []⟩
    (try simp only[BN]at h11);rw[if_neg h11]at hpq;refine X2 ?_;refine(Xb rfl (fun h17=>?_) fun h17=>?_)
    · (try simp only[BN]at h17);rw[if_pos h17]at hpq
      have hon:IntKind.i64.wrap ((if 1<nn then 1 else nn)*cc)=X2Q nn cc:=by
       have:(if 1<nn then 1 else nn)*cc=X2Q nn cc:=by
        unfold X2Q;by_cases h:0<nn
        · rw[if_pos h];have:(if 1<nn then 1 else nn)=1:=by split<;>omega
          rw[this,Int.one_mul]
        rw[if_neg h];have:(if 1<nn then 1 else nn)=0:=by split<;>omega
        rw[this,Int.zero_mul]
       rw[this];have:=X9V (m:=nn) hci;exact Xc (by omega) (by omega)
      have hm1:=mulT hni (z:=cc+xa.1) (by omega);have hm2:=mulT hni (z:=cc+xa.2) (by omega);have hw2:IntKind.i64.wrap (cc+xa.1)=cc+xa.1:=Xc (by omega) (by omega);have hw3:IntKind.i64.wrap (cc+xa.2)=cc+xa.2:=Xc (by omega) (by omega);have hw4:IntKind.i64.wrap (nn*(cc+xa.1))=nn*(cc+xa.1):=Xc (by omega) (by omega);have hw5:IntKind.i64.wrap (nn*(cc+xa.2))=nn*(cc+xa.2):=Xc (by omega) (by omega);clear hm1 hm2;refine Xp [⟨true,.tup [li xa.1,li xa.2],none⟩] ?_ ?_
      · first|exact ca _|exact trivial|simpa[*]using ca _
      refine X2 ?_;refine X3<|X0<|X1 ?_;refine(X9 rfl (fun h21=>?_) (fun h21=>?_))
      · (try simp only[BN]at h21);rw[if_pos h21]at hpq;subst hpq;refine X1 ?_;exact⟨(),trivial,X5 (fun n=>n) []⟩
      (try simp only[BN]at h21);rw[if_neg (fun h=>h h21)]at hpq;refine X2 ?_;refine(X9 rfl (fun h25=>?_) (fun h25=>?_))
      · (try simp only[BN]at h25);rw[if_pos h25]at hpq;subst hpq;refine X1 ?_;exact⟨(),trivial,X5 (fun n=>n) []⟩
      (try simp only[BN]at h25);rw[if_neg (fun h=>h h25)]at hpq;subst hpq;refine X1 ?_;exact⟨(),trivial,X5 (fun n=>n) []⟩
    (try simp only[BN]at h17);rw[if_neg h17]at hpq;subst hpq;exact⟨(),trivial,X5 (fun n=>n) []⟩
   rintro z hz;simp only[upS,X6,XL]
   try simp only[X6,KN,Nat.reduceBEq,if_true,if_false,ins,Nat.reduceLT]
   clear hpq ca cb c1 c2 hci hni hxa hxb;have hw2:IntKind.i64.wrap (m+pq.1)=m+pq.1:=Xc (by omega) (by omega);have hw3:IntKind.i64.wrap (q+pq.2)=q+pq.2:=Xc (by omega) (by omega);have hm1:=mn_in (a:=m+pq.1) (by omega);have hm2:=mn_in (a:=q+pq.2) (by omega);have hmn1:(if 67108865<m+pq.1 then 67108865 else m+pq.1)=mn (m+pq.1) 67108865:=rfl;have hmn2:(if 67108865<q+pq.2 then 67108865 else q+pq.2)=mn (q+pq.2) 67108865:=rfl;refine X1 ?_;refine X1 ?_;exact⟨(k+1,mn (m+pq.1) 67108865,mn (q+pq.2) 67108865),⟨hk1,hJ,hm1.1,hm1.2,hm2.1,hm2.2⟩,by simp only;omega,X5 (fun n=>n) []⟩
 (try simp only[BN]at h4);have hkl:k=l.length:=by omega
 rw[hkl,List.drop_length]at hJ;simp only[spL]at hJ;subst hJ;refine(Xi ?_);refine X2 ?_;exact Xf
end Go.Proofs.YtdajceakaakdoaaGreat

namespace Go.Proofs.YtdajceakaakdoaaGreat
open Go Go.Hl Go.RowKit
inductive CWk:CV→CV→Prop where
 |refl (x:CV):CWk x x
 |nil (s:Nat):CWk (.c (.lit XO)) (.c (.sl s []))
inductive LWk:List CV→List CV→Prop where
 |nil:LWk [] []
 |cons {x y:CV} {l m:List CV}:CWk x y→LWk l m→LWk (x::l) (y::m)
theorem CWk.rel {F:Nat→Prop} {γ:Nat→Value} {w:World} {x y:CV} (h:CWk x y) {v:Value} (hr:Xk F γ w x v):Xk F γ w y v:=by
 cases h with
 |refl=>exact hr
 | nil s=>
   have:v=XO:=X8.lit_eq (γ:=γ) (F:=F) (w:=w) (r:=.v (.one (.c (.lit XO)))) rfl hr;rw[this];exact CRel.nil s
theorem LWk.len {l m:List CV} (h:LWk l m):m.length=l.length:=by
 induction h with
 |nil=>rfl
 |cons _ _ ih=>simp[ih]
theorem LWk.get {l m:List CV} (h:LWk l m):∀(j:Nat) y,m[j]? =some y→∃x,l[j]? =some x∧CWk x y:=by
 induction h with
 |nil=>simp
 | cons hc _ ih=>
   intro j y hj;cases j with
   |zero=>cases hj;exact⟨_,rfl,hc⟩
   |succ j=>exact ih j y hj
theorem LWk.rel {F:Nat→Prop} {γ:Nat→Value} {w:World} {l m:List CV} (h:LWk l m) {vs:Array Value} (hr:Xh F γ w l vs):Xh F γ w m vs:=by
 refine⟨hr.1.trans h.len.symm,fun j y u hy hu=>?_⟩;obtain⟨x,hx,hc⟩:=h.get j y hy;exact hc.rel (hr.2 j x u hx hu)
theorem X9s {s:HS} (k:Nat) {r r':RV} (hl:lkp s.regs k=some r) (hw:∀(F:Nat→Prop) (γ:Nat→Value) (w:World) v,X8 F γ w r v→X8 F γ w r' v):le s {s with regs:=ins k r' s.regs}:=by
 intro w0 B π F γ a w hr;refine⟨F,γ,fun _ h=>h,fun _ h=>.inl h,hr.heap,hr.defers,hr.nt,fun j x hj=>?_⟩;rw[XI]at hj;split at hj
 · rename_i e;cases hj;subst e;exact hw _ _ _ _ (hr.regs j r hl)
 exact hr.regs j x hj
theorem X1l {s:HS} (k:Nat) {xs:List CV} (ys:List CV) (hl:lkp s.regs k=some (.v (.agg xs))) (h:LWk xs ys):le s {s with regs:=ins k (.v (.agg ys)) s.regs}:=by
 refine X9s k hl fun F γ w v hv=>?_;obtain⟨vs,rfl,hc⟩:=hv;exact⟨vs,rfl,h.rel hc⟩
theorem le_one {s:HS} (k sz:Nat) (hl:lkp s.regs k=some (.v (.one (.c (.lit XO))))):le s {s with regs:=ins k (.v (.one (.c (.sl sz [])))) s.regs}:=
 X9s k hl fun F γ w v hv=>CWk.rel (γ:=γ) (CWk.nil sz) hv
theorem le_emp {s:HS} (k sz:Nat) {a:Addr} {cap:Nat} (hl:lkp s.regs k=some (.v (.one (.c (.lit (.slice (some a) 0 cap)))))):le s {s with regs:=ins k (.v (.one (.c (.sl sz [])))) s.regs}:=by
 refine X9s k hl fun F γ w v hv=>?_;have:v=.slice (some a) 0 cap:=X8.lit_eq rfl hv;rw[this];exact CRel.emp sz a cap
theorem X2I {s:HS} (t n d:Nat) {e:TypeId} {sz:Nat} {rows:List (List CD)} (hl:opd s.regs (.tmp t)=.v (.one (.own n))) (ho:lkp s.objs n=some (.row e sz rows)) (hd:d<1000000):
  le s ⟨s.nt,[(t,.v (.one (.own d)))],[(d,.row e sz rows)]⟩:=by
 have hp:X0h (fun _=>n) d=n:=by unfold X0h;rw[if_neg (by omega)]
 refine Xy (fun _=>n) [] rfl ?_ ?_ ?_
 · refine⟨⟨rfl,?_⟩,trivial⟩;rw[hl];simp only[RV.ren,TV.ren,CV.ren,hp,List.contains_nil,Bool.false_eq_true,if_false]
 · simp only[WW,List.contains_nil,Bool.false_eq_true,if_false,Ob.okNil,hp,ho,Ob.ren,and_self]
 simp only[WW,true_or,and_self]
theorem le_nameN {s:HS} (t d:Nat) (e:TypeId) (sz:Nat) (hl:opd s.regs (.tmp t)=.v (.one (.c (.lit XO)))) (hs:0<sz) (hd:d<1000000):
  le s ⟨s.nt,[(t,.v (.one (.own d)))],[(d,.row e sz [])]⟩:=by
 refine Xy (fun n=>n) [d] rfl ?_ ?_ ?_ (by simpa using hd)
 · refine⟨⟨by simp[RV.okNil,TV.okNil,CV.okNil],?_⟩,trivial⟩;rw[hl];simp[RV.ren,TV.ren,CV.ren]
 · simp[WW,hs]
 simp[WW]
theorem X9y {P:Program} {f:FuncId} {fresh:Bool} {r:RV} {ob:Option Ob} {d s:Nat} (h1:Con P f fresh [.one (.c (.lit XO))] r ob d) (h2:∀a cap,Con P f fresh [.one (.c (.lit (.slice (some a) 0 cap)))] r ob d):Con P f fresh [.one (.c (.sl s []))] r ob d:=by
 refine⟨h1.1,fun F w vs hF hsz hargs=>?_⟩;have hv:∃u,vs[0]? =some u:=⟨vs[0]'(by rw[hsz];simp),by simp[hsz]⟩;obtain⟨u,hu⟩:=hv;have hr:CRel F w (.sl s []) u:=hargs 0 _ u rfl hu
 have go:∀(v:Value),u=v→Con P f fresh [.one (.c (.lit v))] r ob d→_:=fun v hv hc=>hc.2 F w vs hF (by simpa using hsz) fun j t u' ht hu'=>by
  cases j with
  | zero=>
    cases ht;rw[hu]at hu';cases hu';subst hv;exact CRel.lit u
  |succ j=>cases ht
 rcases CRel.sl_inv hr with⟨_,hv|⟨a,cap,hv⟩⟩|⟨b,o,cap,cells,hv,_⟩
 · exact go _ hv h1
 · exact go _ hv (h2 a cap)
 exact go _ hv (h2 _ cap)
end Go.Proofs.YtdajceakaakdoaaGreat

namespace Go.Proofs.YtdajceakaakdoaaGreat
open Go Go.Hl
attribute [simp] Ob.flat
def ms114:List (Nat×List Nat):=[(16383,[0,1,3,4,8]),(16382,[1,3,4,8]),(16381,[0,2,3,4,8]),(16375,[0,1,4,8]),(16367,[0,1,3,5,8]),(16127,[0,1,3,4,9]),(16380,[2,3,4,8]),(16374,[1,4,8]),(16366,[1,3,5,8]),(16126,[1,3,4,9]),(16377,[0,3,4,8]),(16373,[0,2,4,8]),(16365,[0,2,3,5,8]),(16125,[0,2,3,4,9]),(16359,[0,1,5,8]),(16119,[0,1,4,9]),(16335,[0,1,3,8]),(16111,[0,1,3,5,9]),(15615,[0,1,3,4,10]),(16376,[3,4,8]),(16372,[2,4,8]),(16364,[2,3,5,8]),(16124,[2,3,4,9]),(16358,[1,5,8]),(16118,[1,4,9]),(16334,[1,3,8]),(16110,[1,3,5,9]),(15614,[1,3,4,10]),(16369,[0,4,8]),(16361,[0,3,5,8]),(16121,[0,3,4,9]),(16357,[0,2,5,8]),(16117,[0,2,4,9]),(16333,[0,2,3,8]),(16109,[0,2,3,5,9]),(15613,[0,2,3,4,10]),(16327,[0,1,6,8]),(16103,[0,1,5,9]),(15607,[0,1,4,10]),(16079,[0,1,3,9]),(15599,[0,1,3,5,10]),(14591,[0,1,3,4]),(16368,[4,8]),(16360,[3,5,8]),(16120,[3,4,9]),(16356,[2,5,8]),(16116,[2,4,9]),(16332,[2,3,8]),(16108,[2,3,5,9]),(15612,[2,3,4,10]),(16326,[1,6,8]),(16102,[1,5,9]),(15606,[1,4,10]),(16078,[1,3,9]),(15598,[1,3,5,10]),(14590,[1,3,4]),(16353,[0,5,8]),(16113,[0,4,9]),(16329,[0,3,8]),(16105,[0,3,5,9]),(15609,[0,3,4,10]),(16325,[0,2,6,8]),(16101,[0,2,5,9]),(15605,[0,2,4,10]),(16077,[0,2,3,9]),(15597,[0,2,3,5,10]),(14589,[0,2,3,4]),(16263,[0,1,7,8]),(16071,[0,1,6,9]),(15591,[0,1,5,10]),(14583,[0,1,4]),(15567,[0,1,3,10]),(14575,[0,1,3,5]),(16352,[5,8]),(16112,[4,9]),(16328,[3,8]),(16104,[3,5,9]),(15608,[3,4,10]),(16324,[2,6,8]),(16100,[2,5,9]),(15604,[2,4,10]),(16076,[2,3,9]),(15596,[2,3,5,10]),(14588,[2,3,4]),(16262,[1,7,8]),(16070,[1,6,9]),(15590,[1,5,10]),(14582,[1,4]),(15566,[1,3,10]),(14574,[1,3,5]),(16321,[0,6,8]),(16097,[0,5,9]),(15601,[0,4,10]),(16073,[0,3,9]),(15593,[0,3,5,10]),(14585,[0,3,4]),(16261,[0,2,7,8]),(16069,[0,2,6,9]),(15589,[0,2,5,10]),(14581,[0,2,4]),(15565,[0,2,3,10]),(14573,[0,2,3,5]),(16135,[0,1,8]),(16007,[0,1,7,9]),(15559,[0,1,6,10]),(14567,[0,1,5]),(14543,[0,1,3]),(16320,[6,8]),(16096,[5,9]),(15600,[4,10]),(16072,[3,9]),(15592,[3,5,10]),(14584,[3,4]),(16260,[2,7,8]),(16068,[2,6,9]),(15588,[2,5,10]),(14580,[2,4]),(15564,[2,3,10]),(14572,[2,3,5]),(16134,[1,8]),(16006,[1,7,9]),(15558,[1,6,10]),(14566,[1,5]),(14542,[1,3]),(16257,[0,7,8]),(16065,[0,6,9]),(15585,[0,5,10]),(14577,[0,4]),(15561,[0,3,10]),(14569,[0,3,5]),(16133,[0,2,8]),(16005,[0,2,7,9]),(15557,[0,2,6,10]),(14565,[0,2,5]),(14541,[0,2,3]),(15879,[0,1,9]),(15495,[0,1,7,10]),(14535,[0,1,6]),(16256,[7,8]),(16064,[6,9]),(15584,[5,10]),(14576,[4]),(15560,[3,10]),(14568,[3,5]),(16132,[2,8]),(16004,[2,7,9]),(15556,[2,6,10]),(14564,[2,5]),(14540,[2,3]),(15878,[1,9]),(15494,[1,7,10]),(14534,[1,6]),(16129,[0,8]),(16001,[0,7,9]),(15553,[0,6,10]),(14561,[0,5]),(14537,[0,3]),(15877,[0,2,9]),(15493,[0,2,7,10]),(14533,[0,2,6]),(15367,[0,1,10]),(14471,[0,1,7]),(16128,[8]),(16000,[7,9]),(15552,[6,10]),(14560,[5]),(14536,[3]),(15876,[2,9]),(15492,[2,7,10]),(14532,[2,6]),(15366,[1,10]),(14470,[1,7]),(15873,[0,9]),(15489,[0,7,10]),(14529,[0,6]),(15365,[0,2,10]),(14469,[0,2,7]),(14343,[0,1,11]),(15872,[9]),(15488,[7,10]),(14528,[6]),(15364,[2,10]),(14468,[2,7]),(14342,[1,11]),(15361,[0,10]),(14465,[0,7]),(14341,[0,2,11]),(12295,[0,1]),(15360,[10]),(14464,[7]),(14340,[2,11]),(12294,[1]),(14337,[0,11]),(12293,[0,2]),(14336,[11]),(12292,[2]),(12289,[0]),(12288,[12]),(8192,[13])]
noncomputable def rgD (d:Nat):Code→Option (Array Oper)
 | .region _ ops _=>if(ops[0]?.bind (·.dst))=some d then some ops else none
 | .seq a b=>match rgD d a with
   |some p=>some p
   |none=>rgD d b
 | .cond _ a b=>match rgD d a with
   |some p=>some p
   |none=>rgD d b
 | .block _ b=>rgD d b
 | .loop b=>rgD d b
 | .scope b=>rgD d b
 |_=>none
def Zw (regs:List (Nat×RV)) (oA oB:List (Nat×Ob)) (outs:List (Nat×Nat×RV)) (R:List Nat):HS:=
 {trS ⟨⟨95,none⟩,regs,[]⟩ outs R with objs:=if R.contains 10 then oA else oB}
def Qn (regs:List (Nat×RV)) (o:List (Nat×Ob)) (outs:List (Nat×Nat×RV)) (R:List Nat):HS:=
 {trS ⟨⟨95,none⟩,regs,[]⟩ outs R with objs:=o}
end Go.Proofs.YtdajceakaakdoaaGreat
