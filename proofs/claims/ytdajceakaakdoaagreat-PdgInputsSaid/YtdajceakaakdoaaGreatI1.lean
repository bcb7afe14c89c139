/- Part 1: contracts of functions of the program and of the reference, and plain facts about what they compute; used by the proof of the claimed statement. Conditions: as each theorem states. -/
import Derived.Test.YtdajceakaakdoaaGreatProg
import Derived.Test.YtdajceakaakdoaaGreatHmZ
import Derived.KernelRfl
import Derived.Test.YtdajceakaakdoaaGreatHmZS
import Derived.Test.YtdajceakaakdoaaGreatHmZP
set_option linter.unusedSimpArgs false
set_option linter.unusedVariables false
set_option linter.unnecessarySimpa false
set_option maxRecDepth 100000
set_option maxHeartbeats 2000000
namespace Go.Proofs.YtdajceakaakdoaaGreat
open Go Go.Hl
@[simp] theorem ty3:XF Tryz.prog 3=some ⟨1,8,false,[.int .i64 0],.other⟩:=by kernel_rfl
@[simp] theorem pf3:Q1 Tryz.prog 3=false:=by kernel_rfl
@[simp] theorem sf3:Xs Tryz.prog 3=false:=by kernel_rfl
@[simp] theorem ty4:XF Tryz.prog 4=some ⟨1,1,false,[.bool false],.other⟩:=by kernel_rfl
@[simp] theorem bt4:X63 Tryz.prog 4=true:=by kernel_rfl
@[simp] theorem pf4:Q1 Tryz.prog 4=false:=by kernel_rfl
@[simp] theorem sf4:Xs Tryz.prog 4=false:=by kernel_rfl
@[simp] theorem ty5:XF Tryz.prog 5=some ⟨1,1,false,[.int .u8 0],.other⟩:=by kernel_rfl
@[simp] theorem pf5:Q1 Tryz.prog 5=false:=by kernel_rfl
@[simp] theorem sf5:Xs Tryz.prog 5=false:=by kernel_rfl
@[simp] theorem ty9:XF Tryz.prog 9=some ⟨1,16,false,[.string ⟨#[]⟩],.other⟩:=by kernel_rfl
@[simp] theorem st9:strT Tryz.prog 9=true:=by kernel_rfl
@[simp] theorem pf9:Q1 Tryz.prog 9=false:=by kernel_rfl
@[simp] theorem sf9:Xs Tryz.prog 9=false:=by kernel_rfl
@[simp] theorem ty22:XF Tryz.prog 22=some ⟨1,24,false,[.slice none 0 0],.slice 89⟩:=by kernel_rfl
@[simp] theorem pf22:Q1 Tryz.prog 22=false:=by kernel_rfl
@[simp] theorem sl22:Xs Tryz.prog 22=true:=by kernel_rfl
@[simp] theorem ty23:XF Tryz.prog 23=some ⟨1,24,false,[.slice none 0 0],.slice 93⟩:=by kernel_rfl
@[simp] theorem pf23:Q1 Tryz.prog 23=false:=by kernel_rfl
@[simp] theorem sl23:Xs Tryz.prog 23=true:=by kernel_rfl
@[simp] theorem ty24:XF Tryz.prog 24=some ⟨1,24,false,[.slice none 0 0],.slice 70⟩:=by kernel_rfl
@[simp] theorem pf24:Q1 Tryz.prog 24=false:=by kernel_rfl
@[simp] theorem sl24:Xs Tryz.prog 24=true:=by kernel_rfl
@[simp] theorem ty26:XF Tryz.prog 26=some ⟨3,72,true,[.slice none 0 0,.slice none 0 0,.slice none 0 0],.struct [(0,22),(1,23),(2,24)]⟩:=by kernel_rfl
@[simp] theorem pf26:Q1 Tryz.prog 26=false:=by kernel_rfl
@[simp] theorem sf26:Xs Tryz.prog 26=false:=by kernel_rfl
@[simp] theorem ty29:XF Tryz.prog 29=some ⟨1,24,false,[.slice none 0 0],.slice 3⟩:=by kernel_rfl
@[simp] theorem pf29:Q1 Tryz.prog 29=false:=by kernel_rfl
@[simp] theorem sl29:Xs Tryz.prog 29=true:=by kernel_rfl
@[simp] theorem ty30:XF Tryz.prog 30=some ⟨1,8,false,[.int .i64 0],.other⟩:=by kernel_rfl
@[simp] theorem pf30:Q1 Tryz.prog 30=false:=by kernel_rfl
@[simp] theorem sf30:Xs Tryz.prog 30=false:=by kernel_rfl
@[simp] theorem ty37:XF Tryz.prog 37=some ⟨1,24,false,[.slice none 0 0],.slice 51⟩:=by kernel_rfl
@[simp] theorem pf37:Q1 Tryz.prog 37=false:=by kernel_rfl
@[simp] theorem sl37:Xs Tryz.prog 37=true:=by kernel_rfl
@[simp] theorem ty39:XF Tryz.prog 39=some ⟨3,40,true,[.int .i64 0,.int .i64 0,.slice none 0 0],.struct [(0,3),(1,3),(2,37)]⟩:=by kernel_rfl
@[simp] theorem pf39:Q1 Tryz.prog 39=false:=by kernel_rfl
@[simp] theorem sf39:Xs Tryz.prog 39=false:=by kernel_rfl
@[simp] theorem ty43:XF Tryz.prog 43=some ⟨1,24,false,[.slice none 0 0],.slice 52⟩:=by kernel_rfl
@[simp] theorem pf43:Q1 Tryz.prog 43=false:=by kernel_rfl
@[simp] theorem sl43:Xs Tryz.prog 43=true:=by kernel_rfl
@[simp] theorem ty45:XF Tryz.prog 45=some ⟨2,32,true,[.int .i64 0,.slice none 0 0],.struct [(0,3),(1,43)]⟩:=by kernel_rfl
@[simp] theorem pf45:Q1 Tryz.prog 45=false:=by kernel_rfl
@[simp] theorem sf45:Xs Tryz.prog 45=false:=by kernel_rfl
@[simp] theorem ty49:XF Tryz.prog 49=some ⟨1,8,false,[.int .i64 0],.other⟩:=by kernel_rfl
@[simp] theorem pf49:Q1 Tryz.prog 49=false:=by kernel_rfl
@[simp] theorem sf49:Xs Tryz.prog 49=false:=by kernel_rfl
@[simp] theorem ty51:XF Tryz.prog 51=some ⟨3,24,true,[.int .i64 0,.int .i64 0,.int .i64 0],.struct [(0,3),(1,3),(2,49)]⟩:=by kernel_rfl
@[simp] theorem pf51:Q1 Tryz.prog 51=false:=by kernel_rfl
@[simp] theorem sf51:Xs Tryz.prog 51=false:=by kernel_rfl
@[simp] theorem ty52:XF Tryz.prog 52=some ⟨2,16,true,[.int .i64 0,.int .i64 0],.array 2 3⟩:=by kernel_rfl
@[simp] theorem pf52:Q1 Tryz.prog 52=false:=by kernel_rfl
@[simp] theorem sf52:Xs Tryz.prog 52=false:=by kernel_rfl
@[simp] theorem ai52:arrI Tryz.prog 52=some (2,.i64):=by kernel_rfl
@[simp] theorem ty59:XF Tryz.prog 59=some ⟨3,72,true,[.slice none 0 0,.slice none 0 0,.slice none 0 0],.struct [(0,29),(1,29),(2,29)]⟩:=by kernel_rfl
@[simp] theorem pf59:Q1 Tryz.prog 59=false:=by kernel_rfl
@[simp] theorem sf59:Xs Tryz.prog 59=false:=by kernel_rfl
@[simp] theorem ty60:XF Tryz.prog 60=some ⟨6,144,true,[.slice none 0 0,.slice none 0 0,.slice none 0 0,.slice none 0 0,.slice none 0 0,.slice none 0 0],.array 2 59⟩:=by kernel_rfl
@[simp] theorem pf60:Q1 Tryz.prog 60=false:=by kernel_rfl
@[simp] theorem sf60:Xs Tryz.prog 60=false:=by kernel_rfl
@[simp] theorem ty64:XF Tryz.prog 64=some ⟨1,8,false,[.int .i64 0],.other⟩:=by kernel_rfl
@[simp] theorem pf64:Q1 Tryz.prog 64=false:=by kernel_rfl
@[simp] theorem sf64:Xs Tryz.prog 64=false:=by kernel_rfl
@[simp] theorem ty65:XF Tryz.prog 65=some ⟨1,8,false,[.int .i64 0],.other⟩:=by kernel_rfl
@[simp] theorem pf65:Q1 Tryz.prog 65=false:=by kernel_rfl
@[simp] theorem sf65:Xs Tryz.prog 65=false:=by kernel_rfl
@[simp] theorem ty66:XF Tryz.prog 66=some ⟨1,24,false,[.slice none 0 0],.slice 68⟩:=by kernel_rfl
@[simp] theorem pf66:Q1 Tryz.prog 66=false:=by kernel_rfl
@[simp] theorem sl66:Xs Tryz.prog 66=true:=by kernel_rfl
@[simp] theorem ty68:XF Tryz.prog 68=some ⟨3,40,true,[.int .i64 0,.int .i64 0,.slice none 0 0],.struct [(0,65),(1,3),(2,66)]⟩:=by kernel_rfl
@[simp] theorem pf68:Q1 Tryz.prog 68=false:=by kernel_rfl
@[simp] theorem sf68:Xs Tryz.prog 68=false:=by kernel_rfl
@[simp] theorem ty70:XF Tryz.prog 70=some ⟨10,144,true,[.int .i64 0,.int .i64 0,.int .i64 0,.int .i64 0,.int .i64 0,.int .i64 0,.slice none 0 0,.slice none 0 0,.slice none 0 0,.slice none 0 0],.struct [(0,64),(1,3),(2,3),(3,3),(4,68),(7,24),(8,24),(9,29)]⟩:=by kernel_rfl
@[simp] theorem pf70:Q1 Tryz.prog 70=false:=by kernel_rfl
@[simp] theorem sf70:Xs Tryz.prog 70=false:=by kernel_rfl
@[simp] theorem ty73:XF Tryz.prog 73=some ⟨1,24,false,[.slice none 0 0],.slice 4⟩:=by kernel_rfl
@[simp] theorem pf73:Q1 Tryz.prog 73=false:=by kernel_rfl
@[simp] theorem sl73:Xs Tryz.prog 73=true:=by kernel_rfl
@[simp] theorem ty76:XF Tryz.prog 76=some ⟨1,24,false,[.slice none 0 0],.slice 150⟩:=by kernel_rfl
@[simp] theorem pf76:Q1 Tryz.prog 76=false:=by kernel_rfl
@[simp] theorem sl76:Xs Tryz.prog 76=true:=by kernel_rfl
@[simp] theorem ty87:XF Tryz.prog 87=some ⟨1,8,false,[.int .i64 0],.other⟩:=by kernel_rfl
@[simp] theorem pf87:Q1 Tryz.prog 87=false:=by kernel_rfl
@[simp] theorem sf87:Xs Tryz.prog 87=false:=by kernel_rfl
@[simp] theorem ty89:XF Tryz.prog 89=some ⟨5,48,true,[.string ⟨#[]⟩,.int .i64 0,.int .i64 0,.int .i64 0,.int .i64 0],.struct [(0,9),(1,87),(2,3),(3,3),(4,3)]⟩:=by kernel_rfl
@[simp] theorem pf89:Q1 Tryz.prog 89=false:=by kernel_rfl
@[simp] theorem sf89:Xs Tryz.prog 89=false:=by kernel_rfl
@[simp] theorem ty93:XF Tryz.prog 93=some ⟨6,72,true,[.string ⟨#[]⟩,.int .i64 0,.int .i64 0,.int .i64 0,.int .i64 0,.slice none 0 0],.struct [(0,9),(1,3),(2,3),(3,68)]⟩:=by kernel_rfl
@[simp] theorem pf93:Q1 Tryz.prog 93=false:=by kernel_rfl
@[simp] theorem sf93:Xs Tryz.prog 93=false:=by kernel_rfl
@[simp] theorem ty95:XF Tryz.prog 95=some ⟨1,24,false,[.slice none 0 0],.slice 9⟩:=by kernel_rfl
@[simp] theorem pf95:Q1 Tryz.prog 95=false:=by kernel_rfl
@[simp] theorem sl95:Xs Tryz.prog 95=true:=by kernel_rfl
@[simp] theorem ty96:XF Tryz.prog 96=some ⟨1,24,false,[.slice none 0 0],.slice 207⟩:=by kernel_rfl
@[simp] theorem pf96:Q1 Tryz.prog 96=false:=by kernel_rfl
@[simp] theorem sl96:Xs Tryz.prog 96=true:=by kernel_rfl
@[simp] theorem ty98:XF Tryz.prog 98=some ⟨6,112,true,[.slice none 0 0,.slice none 0 0,.slice none 0 0,.slice none 0 0,.int .i64 0,.bool false],.struct [(0,95),(1,43),(2,96),(3,96),(4,3),(5,4)]⟩:=by kernel_rfl
@[simp] theorem pf98:Q1 Tryz.prog 98=false:=by kernel_rfl
@[simp] theorem sf98:Xs Tryz.prog 98=false:=by kernel_rfl
@[simp] theorem ty120:XF Tryz.prog 120=some ⟨7,120,true,[.slice none 0 0,.slice none 0 0,.slice none 0 0,.int .i64 0,.int .i64 0,.slice none 0 0,.bool false],.struct [(0,26),(3,3),(4,3),(5,37),(6,4)]⟩:=by kernel_rfl
@[simp] theorem pf120:Q1 Tryz.prog 120=false:=by kernel_rfl
@[simp] theorem sf120:Xs Tryz.prog 120=false:=by kernel_rfl
@[simp] theorem ty121:XF Tryz.prog 121=some ⟨1,24,false,[.slice none 0 0],.slice 29⟩:=by kernel_rfl
@[simp] theorem pf121:Q1 Tryz.prog 121=false:=by kernel_rfl
@[simp] theorem sl121:Xs Tryz.prog 121=true:=by kernel_rfl
@[simp] theorem ty122:XF Tryz.prog 122=some ⟨1,24,false,[.slice none 0 0],.slice 29⟩:=by kernel_rfl
@[simp] theorem pf122:Q1 Tryz.prog 122=false:=by kernel_rfl
@[simp] theorem sl122:Xs Tryz.prog 122=true:=by kernel_rfl
@[simp] theorem ty127:XF Tryz.prog 127=some ⟨1,24,false,[.slice none 0 0],.slice 195⟩:=by kernel_rfl
@[simp] theorem pf127:Q1 Tryz.prog 127=false:=by kernel_rfl
@[simp] theorem sl127:Xs Tryz.prog 127=true:=by kernel_rfl
@[simp] theorem ty129:XF Tryz.prog 129=some ⟨1,24,true,[.slice none 0 0],.struct [(0,127)]⟩:=by kernel_rfl
@[simp] theorem pf129:Q1 Tryz.prog 129=false:=by kernel_rfl
@[simp] theorem sf129:Xs Tryz.prog 129=false:=by kernel_rfl
@[simp] theorem ty135:XF Tryz.prog 135=some ⟨1,8,false,[.map none],.other⟩:=by kernel_rfl
@[simp] theorem pf135:Q1 Tryz.prog 135=false:=by kernel_rfl
@[simp] theorem sf135:Xs Tryz.prog 135=false:=by kernel_rfl
@[simp] theorem ty137:XF Tryz.prog 137=some ⟨5,104,true,[.slice none 0 0,.slice none 0 0,.slice none 0 0,.slice none 0 0,.map none],.struct [(0,26),(3,24),(4,135)]⟩:=by kernel_rfl
@[simp] theorem pf137:Q1 Tryz.prog 137=false:=by kernel_rfl
@[simp] theorem sf137:Xs Tryz.prog 137=false:=by kernel_rfl
@[simp] theorem ty148:XF Tryz.prog 148=some ⟨7,152,true,[.slice none 0 0,.slice none 0 0,.slice none 0 0,.slice none 0 0,.slice none 0 0,.slice none 0 0,.int .i64 0],.struct [(0,26),(3,29),(4,29),(5,76),(6,3)]⟩:=by kernel_rfl
@[simp] theorem pf148:Q1 Tryz.prog 148=false:=by kernel_rfl
@[simp] theorem sf148:Xs Tryz.prog 148=false:=by kernel_rfl
@[simp] theorem ty150:XF Tryz.prog 150=some ⟨2,16,true,[.int .i64 0,.int .i64 0],.struct [(0,3),(1,3)]⟩:=by kernel_rfl
@[simp] theorem pf150:Q1 Tryz.prog 150=false:=by kernel_rfl
@[simp] theorem sf150:Xs Tryz.prog 150=false:=by kernel_rfl
@[simp] theorem ty157:XF Tryz.prog 157=some ⟨1,8,false,[.pointer none],.other⟩:=by kernel_rfl
@[simp] theorem pt157:Q1 Tryz.prog 157=true:=by kernel_rfl
@[simp] theorem sf157:Xs Tryz.prog 157=false:=by kernel_rfl
@[simp] theorem ty158:XF Tryz.prog 158=some ⟨1,8,false,[.nilFunc],.other⟩:=by kernel_rfl
@[simp] theorem pf158:Q1 Tryz.prog 158=false:=by kernel_rfl
@[simp] theorem sf158:Xs Tryz.prog 158=false:=by kernel_rfl
@[simp] theorem pf162:Q1 Tryz.prog 162=false:=by kernel_rfl
@[simp] theorem sf162:Xs Tryz.prog 162=false:=by kernel_rfl
@[simp] theorem ty182:XF Tryz.prog 182=some ⟨2,16,true,[.int .i64 0,.bool false],.struct [(0,3),(1,4)]⟩:=by kernel_rfl
@[simp] theorem pf182:Q1 Tryz.prog 182=false:=by kernel_rfl
@[simp] theorem sf182:Xs Tryz.prog 182=false:=by kernel_rfl
@[simp] theorem ty185:XF Tryz.prog 185=some ⟨3,24,true,[.int .i64 0,.int .i64 0,.int .i64 0],.struct [(0,3),(1,3),(2,3)]⟩:=by kernel_rfl
@[simp] theorem pf185:Q1 Tryz.prog 185=false:=by kernel_rfl
@[simp] theorem sf185:Xs Tryz.prog 185=false:=by kernel_rfl
@[simp] theorem ty190:XF Tryz.prog 190=some ⟨1,24,false,[.slice none 0 0],.slice 191⟩:=by kernel_rfl
@[simp] theorem pf190:Q1 Tryz.prog 190=false:=by kernel_rfl
@[simp] theorem sl190:Xs Tryz.prog 190=true:=by kernel_rfl
@[simp] theorem ty191:XF Tryz.prog 191=some ⟨1,8,false,[.map none],.other⟩:=by kernel_rfl
@[simp] theorem mt191:mapT Tryz.prog 191=some (.int .i64,.bool false):=by kernel_rfl
@[simp] theorem im191:X5z Tryz.prog 191=true:=by kernel_rfl
@[simp] theorem pf191:Q1 Tryz.prog 191=false:=by kernel_rfl
@[simp] theorem sf191:Xs Tryz.prog 191=false:=by kernel_rfl
@[simp] theorem ty192:XF Tryz.prog 192=some ⟨1,8,false,[.nilFunc],.other⟩:=by kernel_rfl
@[simp] theorem pf192:Q1 Tryz.prog 192=false:=by kernel_rfl
@[simp] theorem sf192:Xs Tryz.prog 192=false:=by kernel_rfl
@[simp] theorem ty193:XF Tryz.prog 193=some ⟨1,8,false,[.int .i64 0],.other⟩:=by kernel_rfl
@[simp] theorem pf193:Q1 Tryz.prog 193=false:=by kernel_rfl
@[simp] theorem sf193:Xs Tryz.prog 193=false:=by kernel_rfl
@[simp] theorem ty195:XF Tryz.prog 195=some ⟨4,32,true,[.int .i64 0,.int .i64 0,.int .i64 0,.int .i64 0],.struct [(0,193),(1,3),(2,3),(3,3)]⟩:=by kernel_rfl
@[simp] theorem pf195:Q1 Tryz.prog 195=false:=by kernel_rfl
@[simp] theorem sf195:Xs Tryz.prog 195=false:=by kernel_rfl
@[simp] theorem ty202:XF Tryz.prog 202=some ⟨1,8,false,[.pointer none],.other⟩:=by kernel_rfl
@[simp] theorem pt202:Q1 Tryz.prog 202=true:=by kernel_rfl
@[simp] theorem sf202:Xs Tryz.prog 202=false:=by kernel_rfl
@[simp] theorem ty207:XF Tryz.prog 207=some ⟨2,24,true,[.string ⟨#[]⟩,.int .i64 0],.struct [(0,9),(1,3)]⟩:=by kernel_rfl
@[simp] theorem pf207:Q1 Tryz.prog 207=false:=by kernel_rfl
@[simp] theorem sf207:Xs Tryz.prog 207=false:=by kernel_rfl
@[simp] theorem ty216:XF Tryz.prog 216=some ⟨1,8,false,[.int .i64 0],.other⟩:=by kernel_rfl
@[simp] theorem pf216:Q1 Tryz.prog 216=false:=by kernel_rfl
@[simp] theorem sf216:Xs Tryz.prog 216=false:=by kernel_rfl
@[simp] theorem pf223:Q1 Tryz.prog 223=false:=by kernel_rfl
@[simp] theorem sf223:Xs Tryz.prog 223=false:=by kernel_rfl
@[simp] theorem pf225:Q1 Tryz.prog 225=false:=by kernel_rfl
@[simp] theorem sf225:Xs Tryz.prog 225=false:=by kernel_rfl
@[simp] theorem ty241:XF Tryz.prog 241=some ⟨1,24,false,[.slice none 0 0],.slice 87⟩:=by kernel_rfl
@[simp] theorem pf241:Q1 Tryz.prog 241=false:=by kernel_rfl
@[simp] theorem sl241:Xs Tryz.prog 241=true:=by kernel_rfl
@[simp] theorem ty244:XF Tryz.prog 244=some ⟨1,24,false,[.slice none 0 0],.slice 24⟩:=by kernel_rfl
@[simp] theorem pf244:Q1 Tryz.prog 244=false:=by kernel_rfl
@[simp] theorem sl244:Xs Tryz.prog 244=true:=by kernel_rfl
@[simp] theorem ty245:XF Tryz.prog 245=some ⟨1,8,false,[.pointer none],.other⟩:=by kernel_rfl
@[simp] theorem pt245:Q1 Tryz.prog 245=true:=by kernel_rfl
@[simp] theorem sf245:Xs Tryz.prog 245=false:=by kernel_rfl
@[simp] theorem ty247:XF Tryz.prog 247=some ⟨2,32,true,[.slice none 0 0,.int .i64 0],.struct [(0,127),(1,3)]⟩:=by kernel_rfl
@[simp] theorem pf247:Q1 Tryz.prog 247=false:=by kernel_rfl
@[simp] theorem sf247:Xs Tryz.prog 247=false:=by kernel_rfl
@[simp] theorem ty248:XF Tryz.prog 248=some ⟨1,24,false,[.slice none 0 0],.slice 250⟩:=by kernel_rfl
@[simp] theorem pf248:Q1 Tryz.prog 248=false:=by kernel_rfl
@[simp] theorem sl248:Xs Tryz.prog 248=true:=by kernel_rfl
@[simp] theorem ty250:XF Tryz.prog 250=some ⟨1,8,false,[.nilFunc],.other⟩:=by kernel_rfl
@[simp] theorem pf250:Q1 Tryz.prog 250=false:=by kernel_rfl
@[simp] theorem sf250:Xs Tryz.prog 250=false:=by kernel_rfl
@[simp] theorem ty262:XF Tryz.prog 262=some ⟨1,8,false,[.map none],.other⟩:=by kernel_rfl
@[simp] theorem mt262:mapT Tryz.prog 262=some (.string,.int .i64 0):=by kernel_rfl
@[simp] theorem im262:X5z Tryz.prog 262=true:=by kernel_rfl
@[simp] theorem pf262:Q1 Tryz.prog 262=false:=by kernel_rfl
@[simp] theorem sf262:Xs Tryz.prog 262=false:=by kernel_rfl
@[simp] theorem ty263:XF Tryz.prog 263=some ⟨1,24,false,[.slice none 0 0],.slice 73⟩:=by kernel_rfl
@[simp] theorem pf263:Q1 Tryz.prog 263=false:=by kernel_rfl
@[simp] theorem sl263:Xs Tryz.prog 263=true:=by kernel_rfl
@[simp] theorem ty265:XF Tryz.prog 265=some ⟨5,104,true,[.slice none 0 0,.map none,.slice none 0 0,.slice none 0 0,.slice none 0 0],.struct [(0,95),(1,262),(2,263),(3,121),(4,121)]⟩:=by kernel_rfl
@[simp] theorem pf265:Q1 Tryz.prog 265=false:=by kernel_rfl
@[simp] theorem sf265:Xs Tryz.prog 265=false:=by kernel_rfl
@[simp] theorem ty271:XF Tryz.prog 271=some ⟨2,48,true,[.slice none 0 0,.slice none 0 0],.struct [(0,95),(1,263)]⟩:=by kernel_rfl
@[simp] theorem pf271:Q1 Tryz.prog 271=false:=by kernel_rfl
@[simp] theorem sf271:Xs Tryz.prog 271=false:=by kernel_rfl
@[simp] theorem pf273:Q1 Tryz.prog 273=false:=by kernel_rfl
@[simp] theorem sf273:Xs Tryz.prog 273=false:=by kernel_rfl
@[simp] theorem ty287:XF Tryz.prog 287=some ⟨2,16,true,[.int .i64 0,.int .i64 0],.struct [(0,3),(1,3)]⟩:=by kernel_rfl
@[simp] theorem pf287:Q1 Tryz.prog 287=false:=by kernel_rfl
@[simp] theorem sf287:Xs Tryz.prog 287=false:=by kernel_rfl
@[simp] theorem ty296:XF Tryz.prog 296=some ⟨1,8,false,[.map none],.other⟩:=by kernel_rfl
@[simp] theorem mt296:mapT Tryz.prog 296=some (.string,.bool false):=by kernel_rfl
@[simp] theorem im296:X5z Tryz.prog 296=true:=by kernel_rfl
@[simp] theorem pf296:Q1 Tryz.prog 296=false:=by kernel_rfl
@[simp] theorem sf296:Xs Tryz.prog 296=false:=by kernel_rfl
@[simp] theorem ty309:XF Tryz.prog 309=some ⟨1,24,false,[.slice none 0 0],.slice 287⟩:=by kernel_rfl
@[simp] theorem pf309:Q1 Tryz.prog 309=false:=by kernel_rfl
@[simp] theorem sl309:Xs Tryz.prog 309=true:=by kernel_rfl
@[simp] theorem fsV:X65 Tryz.prog 89=some [false,true,true,true,true]:=by kernel_rfl
@[simp] theorem arV:arrI Tryz.prog 89=none:=by kernel_rfl
theorem Xa {n:Int} (h1:-9223372036854775808≤n) (h2:n≤9223372036854775807):IntKind.i64.wrap n=n:=IntWalk.i64_in n ⟨h1,h2⟩
inductive Tm where
 |mk (op n:Int) (kids:List Tm)
mutual
def Tm.enc:Tm→List CD
 | .mk o n ks=>[iC o,iC n,.sl 3 (XI ks)]
def XI:List Tm→List (List CD)
 |[]=>[]
 |t::l=>t.enc::XI l
end
inductive St where
 |mk (do_ cost var n:Int) (term:Tm) (then_ else_:List St) (bounds:List Int)
def Xi (l:List Int):List (List CD):=l.map fun n=>[iC n]
mutual
def St.enc:St→List CD
 | .mk d c v n t a b bs=>[iC d,iC c,iC v,iC n]++t.enc++[.sl 10 (X8 a),.sl 10 (X8 b),.sl 1 (Xi bs)]
def X8:List St→List (List CD)
 |[]=>[]
 |s::l=>s.enc::X8 l
end
structure Vr where
 name:ByteArray
 kind:Int
 low:Int
 high:Int
 init:Int
structure Ht where
 name:ByteArray
 low:Int
 high:Int
 term:Tm
structure Fl where
 vars:List Vr
 hats:List Ht
 body:List St
def Vr.enc (v:Vr):List CD:=[sC v.name,iC v.kind,iC v.low,iC v.high,iC v.init]
def Ht.enc (h:Ht):List CD:=[sC h.name,iC h.low,iC h.high]++h.term.enc
def Xu (l:List Vr):List (List CD):=l.map Vr.enc
def Xv (l:List Ht):List (List CD):=l.map Ht.enc
def Fl.enc (f:Fl):List CD:=[.sl 5 (Xu f.vars),.sl 6 (Xv f.hats),.sl 10 (X8 f.body)]
attribute [simp] Vr.enc Ht.enc Fl.enc Tm.enc St.enc
theorem X0I (l:List Tm):XI l=l.map Tm.enc:=by
 induction l with
 |nil=>simp[XI]
 |cons t l ih=>simp[XI,ih]
theorem WD (l:List St):X8 l=l.map St.enc:=by
 induction l with
 |nil=>simp[X8]
 |cons t l ih=>simp[X8,ih]
theorem Tm.ind {p:Tm→Prop} (h:∀o n ks,(∀t∈ks,p t)→p (.mk o n ks)):∀t,p t
 | .mk o n ks=>h o n ks fun t ht=>Tm.ind h t
theorem St.ind {p:St→Prop} (h:∀d c v n t a b bs,(∀s∈a,p s)→(∀s∈b,p s)→p (.mk d c v n t a b bs)):∀s,p s
 | .mk d c v n t a b bs=>h d c v n t a b bs (fun s hs=>St.ind h s) (fun s hs=>St.ind h s)
def Tm.op:Tm→Int| .mk o _ _=>o
def Tm.n:Tm→Int| .mk _ n _=>n
def Tm.kids:Tm→List Tm| .mk _ _ k=>k
def St.do_:St→Int| .mk d _ _ _ _ _ _ _=>d
def St.cost:St→Int| .mk _ c _ _ _ _ _ _=>c
def St.var:St→Int| .mk _ _ v _ _ _ _ _=>v
def St.n:St→Int| .mk _ _ _ n _ _ _ _=>n
def St.term:St→Tm| .mk _ _ _ _ t _ _ _=>t
def St.then_:St→List St| .mk _ _ _ _ _ a _ _=>a
def St.else_:St→List St| .mk _ _ _ _ _ _ b _=>b
def St.bounds:St→List Int| .mk _ _ _ _ _ _ _ bs=>bs
abbrev aT (t:Tm):TV:=.agg (t.enc.map .c)
abbrev aS (s:St):TV:=.agg (s.enc.map .c)
abbrev aV (v:Vr):TV:=.agg (v.enc.map .c)
abbrev aH (h:Ht):TV:=.agg (h.enc.map .c)
abbrev aF (f:Fl):TV:=.agg (f.enc.map .c)
abbrev lV (l:List Vr):TV:=.one (.c (.sl 5 (Xu l)))
abbrev lS (l:List St):TV:=.one (.c (.sl 10 (X8 l)))
abbrev lI (l:List Int):TV:=.one (.c (.sl 1 (Xi l)))
theorem Wv {ks:List Tm} {i:Nat} {t:Tm} (h:ks[i]? =some t):(XI ks)[i]? =some t.enc:=by rw[X0I,List.getElem?_map,h];rfl
theorem Q5 {ks:List St} {i:Nat} {t:St} (h:ks[i]? =some t):(X8 ks)[i]? =some t.enc:=by rw[WD,List.getElem?_map,h];rfl
@[simp] theorem len_encT (ks:List Tm):(XI ks).length=ks.length:=by rw[X0I,List.length_map]
@[simp] theorem len_encS (ks:List St):(X8 ks).length=ks.length:=by rw[WD,List.length_map]
@[simp] theorem len_encV (ks:List Vr):(Xu ks).length=ks.length:=by simp[Xu]
@[simp] theorem len_encH (ks:List Ht):(Xv ks).length=ks.length:=by simp[Xv]
@[simp] theorem WU (ks:List Int):(Xi ks).length=ks.length:=by simp[Xi]
@[simp] theorem get_encV (ks:List Vr) (i:Nat):(Xu ks)[i]? =ks[i]?.map Vr.enc:=by simp[Xu]
@[simp] theorem get_encH (ks:List Ht) (i:Nat):(Xv ks)[i]? =ks[i]?.map Ht.enc:=by simp[Xv]
@[simp] theorem X5N (ks:List Int) (i:Nat):(Xi ks)[i]? =ks[i]?.map fun n=>[iC n]:=by simp[Xi]
@[simp] theorem encV_nil:Xu []=[]:=rfl
@[simp] theorem encH_nil:Xv []=[]:=rfl
@[simp] theorem encI_nil:Xi []=[]:=rfl
attribute [simp] XI X8
theorem Xt {α:Type} {l:List α} {k:Nat} (h:k<l.length):∃x,l[k]? =some x∧l.drop k=x::l.drop (k+1):=
 ⟨l[k],List.getElem?_eq_getElem h,List.drop_eq_getElem_cons h⟩
theorem XE {k n:Nat} (h:k<n) (hn:n≤1000000000):IntKind.i64.wrap ((k:Int)+1)=(k:Int)+1:=Xa (by omega) (by omega)
end Go.Proofs.YtdajceakaakdoaaGreat

namespace Go.Proofs.YtdajceakaakdoaaGreat
open Go Go.Hl
def QI (a b:Int):Bool:=decide (a≤b)&&(decide (-1048576≤a)&&decide (b≤1048576))
theorem ZK (a b:Int) (d:Nat):Con Tryz.prog 181 true [li a,li b] (.v (lb (QI a b))) none d:=by
 refine X5 Tryz.func181 ?_;simp only[Tryz.f181];refine X1 ?_;refine X1 ?_;exact(Xh (fun h=>⟨.inr rfl,h⟩) _ (by simp[*];rfl) (by first|rfl|(simp[*,QI,Bool.and_assoc];done)|(simp only[XK,QI,Bool.and_assoc];(repeat' split)<;>first|rfl|(exfalso;omega)|simp_all)) (by simp))
theorem ZL (a b:Int) (d:Nat):Con Tryz.prog 51 true [li a,li b] (.v (lb (QI a b))) none d:=by
 refine X5 Tryz.func51 ?_;simp only[Tryz.f51];refine X1 ?_;refine X1 ?_;exact(Xh (fun h=>⟨.inr rfl,h⟩) _ (by simp[*];rfl) (by first|rfl|(simp[*,QI,Bool.and_assoc];done)|(simp only[XK,QI,Bool.and_assoc];(repeat' split)<;>first|rfl|(exfalso;omega)|simp_all)) (by simp))
def Qg (o:Int):Int×Int:=if o=0∨o=24 then(0,0)else if o=6∨o=7 then(1,1)else if 8≤o∧o≤22 then(2,2)else if o=23 then(3,3)else if o=25 then(2,33)else(-1,-1)
theorem X6T (o:Int) (d:Nat):Con Tryz.prog 248 true [li o] (.tup [li (Qg o).1,li (Qg o).2]) none d:=by
 refine X5 Tryz.func248 ?_;simp only[Tryz.f248];refine X1 ?_;refine X0<|X3<|X0<|X2 ?_;refine(X7 rfl (fun h2=>?_) (fun h2=>?_))
 · (try simp only[BN]at h2);refine X1 ?_;exact(Xh (fun h=>⟨.inr rfl,h⟩) _ (by simp[*];rfl) (by first|rfl|(simp[*,Qg];done)|(simp only[XK,Qg];(repeat' split)<;>first|rfl|(exfalso;omega)|simp_all)) (by simp))
 (try simp only[BN]at h2);refine X1 ?_;refine(X7 rfl (fun h6=>?_) (fun h6=>?_))
 · (try simp only[BN]at h6);refine X1 ?_;exact(Xh (fun h=>⟨.inr rfl,h⟩) _ (by simp[*];rfl) (by first|rfl|(simp[*,Qg];done)|(simp only[XK,Qg];(repeat' split)<;>first|rfl|(exfalso;omega)|simp_all)) (by simp))
 (try simp only[BN]at h6);refine X1 ?_;refine(X7 rfl (fun h10=>?_) (fun h10=>?_))
 · (try simp only[BN]at h10);refine X1 ?_;exact(Xh (fun h=>⟨.inr rfl,h⟩) _ (by simp[*];rfl) (by first|rfl|(simp[*,Qg];done)|(simp only[XK,Qg];(repeat' split)<;>first|rfl|(exfalso;omega)|simp_all)) (by simp))
 (try simp only[BN]at h10);refine X1 ?_;refine(X7 rfl (fun h14=>?_) (fun h14=>?_))
 · (try simp only[BN]at h14);refine X1 ?_;exact(Xh (fun h=>⟨.inr rfl,h⟩) _ (by simp[*];rfl) (by first|rfl|(simp[*,Qg];done)|(simp only[XK,Qg];(repeat' split)<;>first|rfl|(exfalso;omega)|simp_all)) (by simp))
 (try simp only[BN]at h14);refine X1 ?_;refine(Xc rfl (fun h18=>?_) fun h18=>?_)
 · (try simp only[BN]at h18);refine X1 ?_;exact(Xh (fun h=>⟨.inr rfl,h⟩) _ (by simp[*];rfl) (by first|rfl|(simp[*,Qg];done)|(simp only[XK,Qg];(repeat' split)<;>first|rfl|(exfalso;omega)|simp_all)) (by simp))
 (try simp only[BN]at h18);refine X1 ?_;exact(Xh (fun h=>⟨.inr rfl,h⟩) _ (by simp[*];rfl) (by first|rfl|(simp[*,Qg];done)|(simp only[XK,Qg];(repeat' split)<;>first|rfl|(exfalso;omega)|simp_all)) (by simp))
theorem Z7 (n:Int) (b:Bool) (d:Nat):Con Tryz.prog 113 true [.one (.c (.ptr [iC n,bC b]))] (.v (lb (b||decide (1024<n)))) none d:=by
 refine X5 Tryz.func113 ?_;simp only[Tryz.f113];refine X1 ?_;refine X1 ?_;exact Xe
def X3S (s:ByteArray) (i:Nat):Bool:=
 match s[i]? with
 |some b=>(decide (97≤(b.toNat:Int))&&decide ((b.toNat:Int)≤122))||(decide (i≠0)&&((decide (48≤(b.toNat:Int))&&decide ((b.toNat:Int)≤57))||decide ((b.toNat:Int)=46)||decide ((b.toNat:Int)=95)))
 |none=>false
def ZJ (s:ByteArray):Bool:=decide (1≤s.size)&&decide (s.size≤40)&&(List.range s.size).all (X3S s)
theorem X6K {s:ByteArray} {k:Nat} (h:k<s.size):∃b,s[k]? =some b:=⟨s[k],by simp[h]⟩
theorem X8E {s:ByteArray}:s=⟨#[]⟩↔s.size=0:=by
 obtain⟨a⟩:=s;constructor
 · intro h;cases h;rfl
 intro h;have:a= #[]:=Array.eq_empty_of_size_eq_zero h;rw[this]
theorem X68 {s:ByteArray} {k:Nat} (hk:k<s.size) (h:X3S s k=false):ZJ s=false:=by
 unfold ZJ;rw[Bool.and_eq_false_iff];refine .inr ?_;rw[List.all_eq_false];exact⟨k,by simpa using hk,by simp[h]⟩
theorem X5u {s:ByteArray} (h1:1≤s.size) (h2:s.size≤40) (h:∀j:Nat,j<s.size→X3S s j=true):ZJ s=true:=by
 unfold ZJ;simp only[h1,h2,decide_true,Bool.true_and,List.all_eq_true,List.mem_range];exact h
theorem X24 (s:ByteArray) (d:Nat):Con Tryz.prog 179 true [sv s] (.v (lb (ZJ s))) none d:=by
 refine X5 Tryz.func179 ?_;simp only[Tryz.f179];refine X1 ?_;refine X0<|X0<|X2 ?_;refine(Xc rfl (fun h2=>?_) fun h2=>?_)
 · try simp only[BN]at h2
   have hz:ZJ s=false:=by
    unfold ZJ;simp only[X8E]at h2;rw[Bool.and_eq_false_iff,Bool.and_eq_false_iff];simp only[decide_eq_false_iff_not];omega
   refine X1 ?_;exact Xe
 (try simp only[BN]at h2);simp only[X8E]at h2;have h1:1≤s.size:=by omega
 have h40:s.size≤40:=by omega
 refine X0<|X0<|X2 ?_;refine X3<|(Xf [0,14] (fun(x:Nat)=>[(15,.v (li x))]) (fun x=>[]) (fun x=>x≤s.size∧∀j:Nat,j<x→X3S s j=true) (fun x=>s.size - x) (0:Nat) ⟨Nat.zero_le _,fun j hj=>absurd hj (Nat.not_lt_zero j)⟩ ?_ ?_)
 · exact X4 (fun n=>n) []
 rintro k ⟨hk,hall⟩;simp only[upS,X6,XB]
 try simp only[X6,KN,Nat.reduceBEq,if_true,if_false,ins,Nat.reduceLT]
 refine X1 ?_;refine X0<|(X7 rfl (fun h8=>Xb ?_) (fun h8=>?_))
 · (try simp only[BN]at h8);have hlt:k<s.size:=by omega
   obtain⟨b,hb⟩:=X6K hlt;have hw:=XE hlt (by omega);have hk1:k+1≤s.size:=hlt;clear hlt h8;refine X0<|X3<|X0<|X2 ?_;refine X1 ?_;refine X1 ?_;refine X1 ?_;refine(Xc rfl (fun h13=>?_) fun h13=>?_)
   · try simp only[BN]at h13
     have hbad:X3S s k=false:=by
      unfold X3S;rw[hb];simp only[Bool.or_eq_false_iff,Bool.and_eq_false_iff,decide_eq_false_iff_not];omega
     have hz:=X68 hk1 hbad;refine X1 ?_;exact Xe
   try simp only[BN]at h13
   have hgood:X3S s k=true:=by
    unfold X3S;rw[hb];simp only[Bool.or_eq_true,Bool.and_eq_true,decide_eq_true_eq];omega
   refine X2 ?_;exact⟨k+1,⟨by omega,fun j hj=>(Nat.lt_succ_iff_lt_or_eq.1 hj).elim (hall j) (fun e=>e▸hgood)⟩,by omega,X4 (fun n=>n) []⟩
 (try simp only[BN]at h8);have hz:=X5u h1 h40 (fun j hj=>hall j (by omega));refine(Xg ?_);refine X1 ?_;exact Xe
end Go.Proofs.YtdajceakaakdoaaGreat

namespace Go.Proofs.YtdajceakaakdoaaGreat
open Go Go.Hl
mutual
def Tm.nodes:Tm→Nat
 | .mk _ _ ks=>1+Qb ks
def Qb:List Tm→Nat
 |[]=>0
 |t::l=>t.nodes+Qb l
end
mutual
def St.nodes:St→Nat
 | .mk _ _ _ _ t a b bs=>1+t.nodes+Xl a+Xl b
def Xl:List St→Nat
 |[]=>0
 |s::l=>s.nodes+Xl l
end
theorem X6o (t:Tm):1≤t.nodes:=by cases t;simp[Tm.nodes]
theorem X9p (t:St):1≤t.nodes:=by cases t;simp[St.nodes];omega
theorem We:∀l:List Tm,l.length≤Qb l
 |[]=>by simp[Qb]
 |t::l=>by have:=We l;have:=X6o t;simp only[Qb,List.length_cons];omega
theorem Qx:∀l:List St,l.length≤Xl l
 |[]=>by simp[Xl]
 |t::l=>by have:=Qx l;have:=X9p t;simp only[Xl,List.length_cons];omega
mutual
def mTm:Tm→Int→Int×Bool→Int×Bool
 | .mk _ _ ks,dep,s=>if((s.2||decide (12<dep))||decide (1024<s.1+1))=true then(s.1+1,s.2||decide (12<dep))else X3a ks (dep+1) (s.1+1,s.2||decide (12<dep))
def X3a:List Tm→Int→Int×Bool→Int×Bool
 |[],_,s=>s
 |t::l,dep,s=>X3a l dep (mTm t dep s)
end
mutual
theorem X1a:∀(t:Tm) (dep:Int) (s:Int×Bool),s.1≤(mTm t dep s).1∧(mTm t dep s).1≤s.1+t.nodes
 | .mk o n ks,dep,s=>by
   have:=XaK ks (dep+1) (s.1+1,s.2||decide (12<dep));simp only[mTm,Tm.nodes];split
   · simp only;omega
   simp only at this;omega
theorem XaK:∀(l:List Tm) (dep:Int) (s:Int×Bool),s.1≤(X3a l dep s).1∧(X3a l dep s).1≤s.1+Qb l
 |[],dep,s=>by simp[X3a,Qb]
 | t::l,dep,s=>by
   have h1:=X1a t dep s;have h2:=XaK l dep (mTm t dep s);simp only[X3a,Qb];omega
end
theorem X6u (t:Tm):∀(dep c:Int) (b:Bool),0≤dep→0≤c→c+t.nodes≤1000000000→
  X80 Tryz.prog 114 [iC c,bC b] [aT t,li dep] (.tup []) [iC (mTm t dep (c,b)).1,bC (mTm t dep (c,b)).2]:=by
 induction t using Tm.ind with
 |h o n ks ih=>
 intro dep c b hdep hc hn;simp only[Tm.nodes]at hn;obtain⟨res,hres⟩:∃r,mTm (.mk o n ks) dep (c,b)=r:=⟨_,rfl⟩;rw[hres];simp only[mTm]at hres;have hlen:=We ks;have hw:IntKind.i64.wrap (c+1)=c+1:=Xa (by omega) (by omega);refine X31 Tryz.func114 rfl (by kernel_rfl) (Nat.le_of_ble_eq_true rfl) ?_;simp only[Tryz.f114,aT,Tm.enc];refine X1 ?_;refine X1 ?_;refine X1 ?_;refine X0<|X0<|(Xp [⟨true,.v (lb ((b||decide (12<dep))||decide (1024<c+1))),none⟩] ?_ ?_)
 · first|exact Z7 _ _ _|exact trivial|simpa[*]using Z7 _ _ _
 refine(Xc rfl (fun h4=>?_) fun h4=>?_)
 · (try simp only[BN]at h4);rw[if_pos (by simpa using h4)]at hres;subst hres;exact Qm (⟨.inr rfl,_,le_refl _,⟨_,by simp[*];rfl,by simp[XK]⟩,by simp[*]⟩)
 (try simp only[BN]at h4);rw[if_neg (by simpa using h4)]at hres;have hdep2:dep≤12:=by omega
 have hwd:IntKind.i64.wrap (dep+1)=dep+1:=Xa (by omega) (by omega);refine X1 ?_;refine X3<|(Xf [0,2,29,30] (fun(x:Nat×Int×Bool)=>[(31,.v (li x.1))]) (fun x=>[(1000000,.box [.c (iC x.2.1),.c (bC x.2.2)])]) (fun x=>x.1≤ks.length∧X3a (ks.drop x.1) (dep+1) x.2=res∧0≤x.2.1∧x.2.1+Qb (ks.drop x.1)≤1000000000) (fun x=>ks.length - x.1) (0,c+1,b||decide (12<dep)) ⟨Nat.zero_le _,hres,by simp only;omega,by simp only[List.drop_zero];omega⟩ ?_ ?_)
 · exact X4 (fun n=>n) []
 rintro⟨k,m,q⟩ ⟨hk,hJ,hm,hb⟩;simp only[upS,X6,XB]
 try simp only[X6,KN,Nat.reduceBEq,if_true,if_false,ins,Nat.reduceLT]
 simp only at hk hJ hm hb;refine X1 ?_;refine X0<|(X7 rfl (fun h9=>Xb ?_) (fun h9=>?_))
 · (try simp only[BN]at h9);have hlt:k<ks.length:=by omega
   obtain⟨⟨eo,en,ek⟩,he,hd⟩:=Xt hlt;have he':=Wv he;simp only[Tm.enc]at he';have hw1:=XE hlt (by omega);rw[hd]at hJ hb;simp only[X3a,Qb]at hJ hb;have hk1:k+1≤ks.length:=hlt;have hmem:Tm.mk eo en ek∈ks:=List.mem_of_getElem? he;have hle:=X1a (.mk eo en ek) (dep+1) (m,q);clear hlt h9;refine X0<|X3<|X0<|X2 ?_;refine(X0z 4 (.tup []) ([iC (mTm (.mk eo en ek) (dep+1) (m,q)).1,bC (mTm (.mk eo en ek) (dep+1) (m,q)).2]) rfl (by simp[*];rfl) (by simp[ioOf, *];first|exact⟨rfl,rfl,rfl,rfl,rfl⟩|exact⟨rfl,rfl,rfl,rfl⟩|exact⟨rfl,rfl,rfl⟩|exact⟨rfl,rfl⟩|rfl) (ih _ hmem (dep+1) m q (by omega) hm (by omega)) (by simp) (by simp[*];rfl) ?_);refine X2 ?_;exact⟨(k+1,mTm (.mk eo en ek) (dep+1) (m,q)),⟨hk1,hJ,by simp only at hle⊢;omega,by simp only at hle⊢;omega⟩,by simp only;omega,X4 (fun n=>n) []⟩
 (try simp only[BN]at h9);have hkl:k=ks.length:=by omega
 subst hkl;rw[List.drop_length]at hJ;simp only[X3a]at hJ;subst hJ;refine(Xg ?_);exact(⟨.inl rfl,_,le_refl _,⟨_,by simp[*];rfl,by simp[XK]⟩,by simp[*]⟩)
end Go.Proofs.YtdajceakaakdoaaGreat

namespace Go.Proofs.YtdajceakaakdoaaGreat
open Go Go.Hl
def X1k (k:List (Int×Int)):List (List CD):=k.map fun p=>[iC p.1,iC p.2]
@[simp] theorem len_encP (k:List (Int×Int)):(X1k k).length=k.length:=by simp[X1k]
@[simp] theorem get_encP (k:List (Int×Int)) (i:Nat):(X1k k)[i]? =k[i]?.map fun p=>[iC p.1,iC p.2]:=by simp[X1k]
@[simp] theorem encP_nil:X1k []=[]:=rfl
abbrev aP (p:Int×Int):TV:=.agg [.c (iC p.1),.c (iC p.2)]
def mn (a b:Int):Int:=if b<a then b else a
def mx (a b:Int):Int:=if a<b then b else a
def Zk (p q:Int×Int):Int×Int:=(mn p.1 q.1,mx p.2 q.2)
def X2o:List (Int×Int)→Int×Int→Int×Int
 |[],p=>p
 |q::l,p=>X2o l (Zk p q)
def mulP (a b:Int×Int):Int×Int:=Zk (Zk (Zk (a.1*b.1,a.1*b.1) (a.1*b.2,a.1*b.2)) (a.2*b.1,a.2*b.1)) (a.2*b.2,a.2*b.2)
def bnd (p:Int×Int):Prop:=-1048576≤p.1∧p.1≤p.2∧p.2≤1048576
theorem X3B (p q:Int×Int) (d:Nat):Con Tryz.prog 264 true [aP p,aP q] (.v (aP (Zk p q))) none d:=by
 refine X5 Tryz.func264 ?_;simp only[Tryz.f264];refine X1 ?_;refine X1 ?_;exact(Xh (fun h=>⟨.inr rfl,h⟩) _ (by simp[*];rfl) (by simp[XK,Zk,mn,mx]) (by simp))
theorem X5y {x y:Int} (hx:-1048576≤x∧x≤1048576) (hy:-1048576≤y∧y≤1048576):-1099511627776≤x*y∧x*y≤1099511627776:=by
 have h1:x.natAbs≤1048576:=by omega
 have h2:y.natAbs≤1048576:=by omega
 have h3:=Nat.mul_le_mul h1 h2;rw[←Int.natAbs_mul]at h3;omega
theorem X3p (x y:Int) (hx:-1048576≤x∧x≤1048576) (hy:-1048576≤y∧y≤1048576) (d:Nat):Con Tryz.prog 263 true [li x,li y] (.v (li (x*y))) none d:=by
 have hm:=X5y hx hy;have hw:IntKind.i64.wrap (x*y)=x*y:=Xa (by omega) (by omega);refine X5 Tryz.func263 ?_;simp only[Tryz.f263];refine X1 ?_;refine X1 ?_;exact Xe
def X92:List Int→Int×Int→Int×Int
 |[],p=>p
 |q::l,p=>X92 l (Zk p (q,q))
theorem X4w (a b:Int×Int) (ha:bnd a) (hb:bnd b) (d:Nat):Con Tryz.prog 262 true [aP a,aP b,.one (.fn 263 [])] (.v (aP (mulP a b))) none d:=by
 obtain⟨a1,a2⟩:=a;obtain⟨b1,b2⟩:=b;simp only[bnd]at ha hb;refine X5 Tryz.func262 ?_;simp only[Tryz.f262];obtain⟨L,hL⟩:∃L,L=[a1*b2,a2*b1,a2*b2]:=⟨_,rfl⟩;have hlen:L.length=3:=by rw[hL];rfl
 obtain⟨res,hres⟩:∃res,mulP (a1,a2) (b1,b2)=res:=⟨_,rfl⟩;rw[hres];have hres2:X92 L (a1*b1,a1*b1)=res:=by rw[←hres,hL];rfl
 clear hres;refine X1 ?_;refine Xm [⟨true,.v (li (a1*b1)),none⟩] ?_ ?_
 · first|exact X3p _ _ (by omega) (by omega) _|exact trivial|simpa[*]using X3p _ _ (by omega) (by omega) _
 refine X1 ?_;refine X0<|X0<|(QH [⟨true,.v (li (a1*b2)),none⟩,⟨true,.v (li (a2*b1)),none⟩,⟨true,.v (li (a2*b2)),none⟩] (by kernel_rfl) (by kernel_rfl) (by rfl) (by simp[*];first|exact⟨rfl,Iff.rfl⟩|exact⟨rfl,trivial⟩|rfl) ?_ ?_)
 · first|exact trivial|exact trivial|(repeat' first|exact trivial|exact X3p _ _ (by omega) (by omega) _|exact X3p _ _ (by omega) (by omega) _|exact X3p _ _ (by omega) (by omega) _|apply And.intro)
 refine X3<|(Xf [6,8,38,39] (fun(x:Nat×Int×Int)=>[(40,.v (li x.1))]) (fun x=>[(6,.box [.c (iC 0),.c (iC 0)]),(8,.box [.c (iC x.2.1),.c (iC x.2.2)]),(38,.row 3 1 (Xi L))]) (fun x=>x.1≤3∧X92 (L.drop x.1) x.2=res) (fun x=>3 - x.1) (0,a1*b1,a1*b1) ⟨Nat.zero_le _,hres2⟩ ?_ ?_)
 · exact Xx (fun n=>n) [] rfl (by simp[*,upS,X6]) (by simp[upS,Xi,hL]) (by simp[upS])
 rintro⟨k,m,q⟩ ⟨hk,hJ⟩;simp only[upS,X6,XB]
 try simp only[X6,KN,Nat.reduceBEq,if_true,if_false,ins,Nat.reduceLT]
 simp only at hk hJ;clear hres2 hL;refine X1 ?_;refine X0<|(X7 rfl (fun h6=>Xb ?_) (fun h6=>?_))
 · (try simp only[BN]at h6);have hlt:k<L.length:=by omega
   obtain⟨e,he,hd⟩:=Xt hlt;have hw1:=XE hlt (by omega);rw[hd]at hJ;simp only[X92]at hJ;have hk1:k+1≤3:=by omega
   clear hlt h6;refine X0<|X3<|X0<|X2 ?_;refine(Xp [⟨true,.v (aP (Zk (m,q) (e,e))),none⟩] ?_ ?_)
   · first|exact X3B (m,q) (e,e) _|exact trivial|simpa[*]using X3B (m,q) (e,e) _
   refine X2 ?_;exact⟨(k+1,Zk (m,q) (e,e)),⟨hk1,hJ⟩,by simp only;omega,X4 (fun n=>n) []⟩
 (try simp only[BN]at h6);have hkl:k=L.length:=by omega
 rw[hkl,List.drop_length]at hJ;simp only[X92]at hJ;refine(Xg ?_);refine X1 ?_;exact(Xh (fun h=>⟨.inr rfl,h⟩) _ (by simp[*];rfl) (by subst hJ;rfl) (by simp))
end Go.Proofs.YtdajceakaakdoaaGreat

namespace Go.Proofs.YtdajceakaakdoaaGreat
open Go Go.Hl
def ZT (vars:List Vr) (inp:Bool) (n:Int):Bool:=
 decide (0≤n)&&match vars[n.toNat]? with
  |some v=> !(inp&&decide (v.kind=0))
  |none=>false
def Q6 (vars:List Vr) (inp:Bool) (o n:Int) (len:Nat):Bool:=
 (!decide ((Qg o).1<0)&&(!decide ((len:Int)<(Qg o).1)&& !decide ((Qg o).2<(len:Int))))&&(if o=0 then true else if o=24 then ZT vars inp n else decide (n=0))
mutual
def QU (vars:List Vr) (inp:Bool):Tm→Bool
 | .mk o n ks=>Q6 vars inp o n ks.length&&WL vars inp ks
def WL (vars:List Vr) (inp:Bool):List Tm→Bool
 |[]=>true
 |t::l=>QU vars inp t&&WL vars inp l
end
theorem ZX {vars:List Vr} {inp:Bool}:∀{l:List Tm},WL vars inp l=true→∀t∈l,QU vars inp t=true
 |[],_,t,ht=>by cases ht
 | a::l,h,t,ht=>by
   simp only[WL,Bool.and_eq_true]at h;rcases List.mem_cons.1 ht with rfl|h1
   · exact h.1
   exact ZX h.2 t h1
theorem X3k {vars:List Vr} {n:Int}:(0≤n∧n<vars.length)→∃v,vars[n.toNat]? =some v:=by
 rintro⟨h1,h2⟩;have:n.toNat<vars.length:=by omega
 exact⟨vars[n.toNat],by simp[this]⟩
theorem X0Q {vars:List Vr} {n:Int} (h1:0≤n) (h2:¬n<vars.length):vars[n.toNat]? =none:=by
 rw[List.getElem?_eq_none];omega
theorem XbY (vars:List Vr) (inp:Bool) (hv:vars.length≤1000000000) (t:Tm):t.nodes≤1000000000→∀d:Nat,
  Con Tryz.prog 220 true [lV vars,aT t,lb inp] (.v (lb (QU vars inp t))) none d:=by
 induction t using Tm.ind with
 |h o n ks ih=>
 intro hn d;simp only[Tm.nodes]at hn;have hlen:=We ks;obtain⟨res,hres⟩:∃r,QU vars inp (.mk o n ks)=r:=⟨_,rfl⟩;rw[hres];simp only[QU]at hres
 have ih':∀t∈ks,∀d,Con Tryz.prog 220 true [lV vars,aT t,lb inp] (.v (lb (QU vars inp t))) none d:=by
  intro t ht d;refine ih t ht ?_ d
  have:t.nodes≤Qb ks:=by
   clear hres ih hn hlen
   induction ks with
   |nil=>cases ht
   | cons a l ih=>
     simp only[Qb];rcases List.mem_cons.1 ht with rfl|h
     · omega
     have:=ih h;omega
  omega
 clear ih;refine X5 Tryz.func220 ?_;simp only[Tryz.f220];simp only[aT,Tm.enc];refine X1 ?_;refine Xm [⟨true,.tup [li (Qg o).1,li (Qg o).2],none⟩] ?_ ?_
 · first|exact X6T o _|exact trivial|simpa[*]using X6T o _
 refine X0<|X0<|X2 ?_;refine(Xc rfl (fun h3=>?_) fun h3=>?_)
 · try simp only[BN]at h3
   have hz:Q6 vars inp o n ks.length=false:=by
    unfold Q6;rw[Bool.and_eq_false_iff];refine .inl ?_;simp only[Bool.and_eq_false_iff,Bool.not_eq_false',decide_eq_true_eq];omega
   rw[hz,Bool.false_and]at hres;refine X1 ?_;exact(Xh (fun h=>⟨.inr rfl,h⟩) _ (by simp[*];rfl) (by first|rfl|simp[*]) (by simp))
 try simp only[BN]at h3
 have hz:(!decide ((Qg o).1<0)&&(!decide ((ks.length:Int)<(Qg o).1)&& !decide ((Qg o).2<(ks.length:Int))))=true:=by
  simp only[Bool.and_eq_true,Bool.not_eq_true',decide_eq_false_iff_not];omega
 refine(XV [0,2,4] (fun(z:Unit)=>[]) (fun(z:Unit)=>[(4,.box [.c (iC o),.c (iC n),.c (.sl 3 (XI ks))])]) (fun(z:Unit)=>Q6 vars inp o n ks.length=true) ?_ ?_)
 ·
  refine X1 ?_;refine X3<|X0<|X2 ?_;refine(X7 rfl (fun h9=>Xb ?_) (fun h9=>?_))
  · (try simp only[BN]at h9);exact⟨(),by unfold Q6;rw[hz,Bool.true_and,if_pos h9],X4 (fun n=>n) []⟩
  (try simp only[BN]at h9);refine X1 ?_;refine(X7 rfl (fun h12=>?_) (fun h12=>?_))
  · (try simp only[BN]at h12);by_cases hn0:0≤n
    · by_cases hn3:n<vars.length
      · obtain⟨v,hv1⟩:=X3k ⟨hn0,hn3⟩;have hn1:¬(vars.length:Int)≤n:=by omega
        have hn2:¬n<0:=by omega
        clear hn3;refine X1 ?_;refine(Xc rfl (fun h14=>?_) fun h14=>?_)
        · try simp only[BN]at h14
          have hz3:Q6 vars inp o n ks.length=false:=by
           unfold Q6 ZT;rw[hz,Bool.true_and,if_neg h9,if_pos h12,hv1];simp[h14]
          rw[hz3,Bool.false_and]at hres;refine X1 ?_;exact(Xh (fun h=>⟨.inr rfl,h⟩) _ (by simp[*];rfl) (by first|rfl|simp[*]) (by simp))
        try simp only[BN]at h14
        exact⟨(),by
         unfold Q6 ZT;rw[hz,Bool.true_and,if_neg h9,if_pos h12,hv1];simp only[Bool.and_eq_true,Bool.not_eq_true',Bool.and_eq_false_iff,decide_eq_true_eq,decide_eq_false_iff_not]
         exact⟨hn0,h14⟩,X4 (fun n=>n) []⟩
      cases inp
      · have hv1:=X0Q hn0 hn3;have hn1:(vars.length:Int)≤n:=by omega
        have hn2:¬n<0:=by omega
        have hz2:∀i,ZT vars i n=false:=by intro i;simp[ZT,hv1]
        clear hn3;refine X1 ?_;refine(Xc rfl (fun h14=>?_) fun h14=>?_)
        · try simp only[BN]at h14
          have hz3:∀i,Q6 vars i o n ks.length=false:=by
           intro i;unfold Q6;rw[hz,Bool.true_and,if_neg h9,if_pos h12,hz2]
          rw[hz3,Bool.false_and]at hres;refine X1 ?_;exact(Xh (fun h=>⟨.inr rfl,h⟩) _ (by simp[*];rfl) (by first|rfl|simp[*]) (by simp))
        exact absurd h14 (by simp)
      have hv1:=X0Q hn0 hn3;have hn1:(vars.length:Int)≤n:=by omega
      have hn2:¬n<0:=by omega
      have hz2:∀i,ZT vars i n=false:=by intro i;simp[ZT,hv1]
      clear hn3;refine X1 ?_;refine(Xc rfl (fun h14=>?_) fun h14=>?_)
      · try simp only[BN]at h14
        have hz3:∀i,Q6 vars i o n ks.length=false:=by
         intro i;unfold Q6;rw[hz,Bool.true_and,if_neg h9,if_pos h12,hz2]
        rw[hz3,Bool.false_and]at hres;refine X1 ?_;exact(Xh (fun h=>⟨.inr rfl,h⟩) _ (by simp[*];rfl) (by first|rfl|simp[*]) (by simp))
      exact absurd h14 (by simp)
    cases inp
    · have hn2:n<0:=by omega
      have hz2:∀i,ZT vars i n=false:=by intro i;simp[ZT,hn0]
      refine X1 ?_;refine(Xc rfl (fun h14=>?_) fun h14=>?_)
      · try simp only[BN]at h14
        have hz3:∀i,Q6 vars i o n ks.length=false:=by
         intro i;unfold Q6;rw[hz,Bool.true_and,if_neg h9,if_pos h12,hz2]
        rw[hz3,Bool.false_and]at hres;refine X1 ?_;exact(Xh (fun h=>⟨.inr rfl,h⟩) _ (by simp[*];rfl) (by first|rfl|simp[*]) (by simp))
      exact absurd h14 (by simp)
    have hn2:n<0:=by omega
    have hz2:∀i,ZT vars i n=false:=by intro i;simp[ZT,hn0]
    refine X1 ?_;refine(Xc rfl (fun h14=>?_) fun h14=>?_)
    · try simp only[BN]at h14
      have hz3:∀i,Q6 vars i o n ks.length=false:=by
       intro i;unfold Q6;rw[hz,Bool.true_and,if_neg h9,if_pos h12,hz2]
      rw[hz3,Bool.false_and]at hres;refine X1 ?_;exact(Xh (fun h=>⟨.inr rfl,h⟩) _ (by simp[*];rfl) (by first|rfl|simp[*]) (by simp))
    exact absurd h14 (by simp)
  (try simp only[BN]at h12);refine X1 ?_;refine(Xc rfl (fun h19=>?_) fun h19=>?_)
  · try simp only[BN]at h19
    have hz3:Q6 vars inp o n ks.length=false:=by
     unfold Q6;rw[hz,Bool.true_and,if_neg h9,if_neg h12];simpa using h19
    rw[hz3,Bool.false_and]at hres;refine X1 ?_;exact(Xh (fun h=>⟨.inr rfl,h⟩) _ (by simp[*];rfl) (by first|rfl|simp[*]) (by simp))
  try simp only[BN]at h19
  exact⟨(),by
   unfold Q6;rw[hz,Bool.true_and,if_neg h9,if_neg h12]
   simpa using h19,X4 (fun n=>n) []⟩
 rintro z hz;simp only[upS,X6,XB]
 try simp only[X6,KN,Nat.reduceBEq,if_true,if_false,ins,Nat.reduceLT]
 rw[hz,Bool.true_and]at hres;refine X0<|X0<|X2 ?_;refine X3<|(Xf [0,2,65,66] (fun(x:Nat)=>[(67,.v (li x))]) (fun x=>[]) (fun x=>x≤ks.length∧WL vars inp (ks.drop x)=res) (fun x=>ks.length - x) (0:Nat) ⟨Nat.zero_le _,hres⟩ ?_ ?_)
 · exact X4 (fun n=>n) []
 rintro k ⟨hk,hJ⟩;simp only[upS,X6,XB]
 try simp only[X6,KN,Nat.reduceBEq,if_true,if_false,ins,Nat.reduceLT]
 refine X1 ?_;refine X0<|(X7 rfl (fun h26=>Xb ?_) (fun h26=>?_))
 · (try simp only[BN]at h26);have hlt:k<ks.length:=by omega
   obtain⟨⟨eo,en,ek⟩,he,hd⟩:=Xt hlt;have he':=Wv he;simp only[Tm.enc]at he';have hw1:=XE hlt (by omega);rw[hd]at hJ;simp only[WL]at hJ;have hk1:k+1≤ks.length:=hlt;have hmem:Tm.mk eo en ek∈ks:=List.mem_of_getElem? he;clear hlt h26;refine X0<|X3<|X0<|X2 ?_;refine Xm [⟨true,.v (lb (QU vars inp (.mk eo en ek))),none⟩] ?_ ?_
   · first|exact ih' _ hmem _|exact trivial|simpa[*]using ih' _ hmem _
   refine(Xc rfl (fun h29=>?_) fun h29=>?_)
   · (try simp only[BN]at h29);rw[h29,Bool.false_and]at hJ;subst hJ;refine X1 ?_;exact(Xh (fun h=>⟨.inr rfl,h⟩) _ (by simp[*];rfl) (by first|rfl|simp[*]) (by simp))
   (try simp only[BN]at h29);rw[h29,Bool.true_and]at hJ;refine X2 ?_;exact⟨k+1,⟨hk1,hJ⟩,by omega,X4 (fun n=>n) []⟩
 (try simp only[BN]at h26);have hkl:k=ks.length:=by omega
 subst hkl;rw[List.drop_length]at hJ;simp only[WL]at hJ;subst hJ;refine(Xg ?_);refine X1 ?_;exact(Xh (fun h=>⟨.inr rfl,h⟩) _ (by simp[*];rfl) (by first|rfl|simp[*]) (by simp))
end Go.Proofs.YtdajceakaakdoaaGreat

namespace Go.Proofs.YtdajceakaakdoaaGreat
open Go Go.Hl
theorem ZN {ks:List Tm} {t:Tm} (ht:t∈ks):t.nodes≤Qb ks:=by
 induction ks with
 |nil=>cases ht
 | cons a l ih=>
   simp only[Qb];rcases List.mem_cons.1 ht with rfl|h
   · omega
   have:=ih h;omega
theorem Ql (a b:Int) (d:Nat):Con Tryz.prog 100 true [li a,li b] (.v (li (mn a b))) none d:=by
 refine X5 Tryz.func100 ?_;simp only[Tryz.f100];refine X1 ?_;refine X0<|X0<|X2 ?_;refine(Xc rfl (fun h2=>?_) fun h2=>?_)
 · (try simp only[BN]at h2);have hz:mn a b=a:=by unfold mn;split<;>omega
   refine X1 ?_;exact Xe
 (try simp only[BN]at h2);have hz:mn a b=b:=by unfold mn;split<;>omega
 refine X1 ?_;exact Xe
theorem Qu (a b:Int) (d:Nat):Con Tryz.prog 99 true [li a,li b] (.v (li (mx a b))) none d:=by
 refine X5 Tryz.func99 ?_;simp only[Tryz.f99];refine X1 ?_;refine X0<|X0<|X2 ?_;refine(Xc rfl (fun h2=>?_) fun h2=>?_)
 · (try simp only[BN]at h2);have hz:mx a b=a:=by unfold mx;split<;>omega
   refine X1 ?_;exact Xe
 (try simp only[BN]at h2);have hz:mx a b=b:=by unfold mx;split<;>omega
 refine X1 ?_;exact Xe
def X3z (a:Int):Int:=if a<0 then -a else a
theorem X9l (a:Int) (h:-1048576≤a∧a≤1048576) (d:Nat):Con Tryz.prog 212 true [li a] (.v (li (X3z a))) none d:=by
 have hw:IntKind.i64.wrap (-a)=-a:=Xa (by omega) (by omega);refine X5 Tryz.func212 ?_;simp only[Tryz.f212];refine X1 ?_;refine X0<|X0<|X2 ?_;refine(Xc rfl (fun h2=>?_) fun h2=>?_)
 · (try simp only[BN]at h2);refine X1 ?_;exact(Xh (fun h=>⟨.inr rfl,h⟩) _ (by simp[*];rfl) (by first|rfl|(simp[*,X3z];done)|(simp only[XK,X3z];(repeat' split)<;>first|rfl|(exfalso;omega)|simp_all)) (by simp))
 (try simp only[BN]at h2);refine X1 ?_;exact(Xh (fun h=>⟨.inr rfl,h⟩) _ (by simp[*];rfl) (by first|rfl|(simp[*,X3z];done)|(simp only[XK,X3z];(repeat' split)<;>first|rfl|(exfalso;omega)|simp_all)) (by simp))
def Zd (o:Int):Int:=if o=0∨o=24 then 0 else if o=6∨o=7 then 1 else if 8≤o∧o≤22 then 2 else if o=23 then 3 else if o=25 then -2 else -1
theorem X6g (o:Int) (d:Nat):Con Tryz.prog 161 true [li o] (.v (li (Zd o))) none d:=by
 refine X5 Tryz.func161 ?_;simp only[Tryz.f161];refine X1 ?_;refine X0<|X0<|X2 ?_;refine X3<|(XV [3] (fun(z:Bool)=>[(4,.v (lb z))]) (fun(z:Bool)=>[]) (fun(z:Bool)=>z=decide (o=0∨o=24)) ?_ ?_)
 ·
  refine X1 ?_;refine(X7 rfl (fun h4=>Xb ?_) (fun h4=>?_))
  · (try simp only[BN]at h4);exact⟨decide (o=0∨o=24),rfl,X4 (fun n=>n) []⟩
  (try simp only[BN]at h4);refine X2 ?_;exact⟨decide (o=0∨o=24),rfl,X4 (fun n=>n) []⟩
 rintro _ rfl;simp only[upS,X6,XB]
 try simp only[X6,KN,Nat.reduceBEq,if_true,if_false,ins,Nat.reduceLT]
 refine(X7 rfl (fun h8=>?_) (fun h8=>?_))
 · (try simp only[BN]at h8);refine X1 ?_;exact(Xh (fun h=>⟨.inr rfl,h⟩) _ (by simp[*];rfl) (by first|rfl|(simp[*,Zd];done)|(simp only[XK,Zd];(repeat' split)<;>first|rfl|(exfalso;omega)|simp_all)) (by simp))
 (try simp only[BN]at h8);refine(XV [3] (fun(z:Bool)=>[(7,.v (lb z))]) (fun(z:Bool)=>[]) (fun(z:Bool)=>z=decide (o=6∨o=7)) ?_ ?_)
 ·
  refine X1 ?_;refine(X7 rfl (fun h13=>Xb ?_) (fun h13=>?_))
  · (try simp only[BN]at h13);exact⟨decide (o=6∨o=7),rfl,X4 (fun n=>n) []⟩
  (try simp only[BN]at h13);refine X2 ?_;exact⟨decide (o=6∨o=7),rfl,X4 (fun n=>n) []⟩
 rintro _ rfl;simp only[upS,X6,XB]
 try simp only[X6,KN,Nat.reduceBEq,if_true,if_false,ins,Nat.reduceLT]
 refine(X7 rfl (fun h17=>?_) (fun h17=>?_))
 · (try simp only[BN]at h17);refine X1 ?_;exact(Xh (fun h=>⟨.inr rfl,h⟩) _ (by simp[*];rfl) (by first|rfl|(simp[*,Zd];done)|(simp only[XK,Zd];(repeat' split)<;>first|rfl|(exfalso;omega)|simp_all)) (by simp))
 (try simp only[BN]at h17);refine(XV [3] (fun(z:Bool)=>[(10,.v (lb z))]) (fun(z:Bool)=>[]) (fun(z:Bool)=>z=decide (8≤o∧o≤22)) ?_ ?_)
 ·
  refine X1 ?_;refine(X7 rfl (fun h22=>Xb ?_) (fun h22=>?_))
  · (try simp only[BN]at h22);exact⟨decide (8≤o∧o≤22),rfl,X4 (fun n=>n) []⟩
  (try simp only[BN]at h22);refine X1 ?_;refine(X7 rfl (fun h25=>Xb ?_) (fun h25=>?_))
  · (try simp only[BN]at h25);exact⟨decide (8≤o∧o≤22),rfl,X4 (fun n=>n) []⟩
  (try simp only[BN]at h25);refine X1 ?_;refine(X7 rfl (fun h28=>Xb ?_) (fun h28=>?_))
  · (try simp only[BN]at h28);exact⟨decide (8≤o∧o≤22),rfl,X4 (fun n=>n) []⟩
  (try simp only[BN]at h28);refine X1 ?_;refine(X7 rfl (fun h31=>Xb ?_) (fun h31=>?_))
  · (try simp only[BN]at h31);exact⟨decide (8≤o∧o≤22),rfl,X4 (fun n=>n) []⟩
  (try simp only[BN]at h31);refine X1 ?_;refine(X7 rfl (fun h34=>Xb ?_) (fun h34=>?_))
  · (try simp only[BN]at h34);exact⟨decide (8≤o∧o≤22),rfl,X4 (fun n=>n) []⟩
  (try simp only[BN]at h34);refine X1 ?_;refine(X7 rfl (fun h37=>Xb ?_) (fun h37=>?_))
  · (try simp only[BN]at h37);exact⟨decide (8≤o∧o≤22),rfl,X4 (fun n=>n) []⟩
  (try simp only[BN]at h37);refine X1 ?_;refine(X7 rfl (fun h40=>Xb ?_) (fun h40=>?_))
  · (try simp only[BN]at h40);exact⟨decide (8≤o∧o≤22),rfl,X4 (fun n=>n) []⟩
  (try simp only[BN]at h40);refine X1 ?_;refine(X7 rfl (fun h43=>Xb ?_) (fun h43=>?_))
  · (try simp only[BN]at h43);exact⟨decide (8≤o∧o≤22),rfl,X4 (fun n=>n) []⟩
  (try simp only[BN]at h43);refine X1 ?_;refine(X7 rfl (fun h46=>Xb ?_) (fun h46=>?_))
  · (try simp only[BN]at h46);exact⟨decide (8≤o∧o≤22),rfl,X4 (fun n=>n) []⟩
  (try simp only[BN]at h46);refine X1 ?_;refine(X7 rfl (fun h49=>Xb ?_) (fun h49=>?_))
  · (try simp only[BN]at h49);exact⟨decide (8≤o∧o≤22),rfl,X4 (fun n=>n) []⟩
  (try simp only[BN]at h49);refine X1 ?_;refine(X7 rfl (fun h52=>Xb ?_) (fun h52=>?_))
  · (try simp only[BN]at h52);exact⟨decide (8≤o∧o≤22),rfl,X4 (fun n=>n) []⟩
  (try simp only[BN]at h52);refine X1 ?_;refine(X7 rfl (fun h55=>Xb ?_) (fun h55=>?_))
  · (try simp only[BN]at h55);exact⟨decide (8≤o∧o≤22),rfl,X4 (fun n=>n) []⟩
  (try simp only[BN]at h55);refine X1 ?_;refine(X7 rfl (fun h58=>Xb ?_) (fun h58=>?_))
  · (try simp only[BN]at h58);exact⟨decide (8≤o∧o≤22),rfl,X4 (fun n=>n) []⟩
  (try simp only[BN]at h58);refine X1 ?_;refine(X7 rfl (fun h61=>Xb ?_) (fun h61=>?_))
  · (try simp only[BN]at h61);exact⟨decide (8≤o∧o≤22),rfl,X4 (fun n=>n) []⟩
  (try simp only[BN]at h61);refine X2 ?_;have hz:decide (o=22)=(decide (8≤o)&&decide (o≤22)):=by rw[←Bool.decide_and,decide_eq_decide];omega
  exact⟨decide (8≤o∧o≤22),rfl,X4 (fun n=>n) []⟩
 rintro _ rfl;simp only[upS,X6,XB]
 try simp only[X6,KN,Nat.reduceBEq,if_true,if_false,ins,Nat.reduceLT]
 refine(X7 rfl (fun h65=>?_) (fun h65=>?_))
 · (try simp only[BN]at h65);refine X1 ?_;exact(Xh (fun h=>⟨.inr rfl,h⟩) _ (by simp[*];rfl) (by first|rfl|(simp[*,Zd];done)|(simp only[XK,Zd];(repeat' split)<;>first|rfl|(exfalso;omega)|simp_all)) (by simp))
 (try simp only[BN]at h65);refine X1 ?_;refine(X7 rfl (fun h69=>?_) (fun h69=>?_))
 · (try simp only[BN]at h69);refine X1 ?_;exact(Xh (fun h=>⟨.inr rfl,h⟩) _ (by simp[*];rfl) (by first|rfl|(simp[*,Zd];done)|(simp only[XK,Zd];(repeat' split)<;>first|rfl|(exfalso;omega)|simp_all)) (by simp))
 (try simp only[BN]at h69);refine X1 ?_;refine(Xc rfl (fun h73=>?_) fun h73=>?_)
 · (try simp only[BN]at h73);refine X1 ?_;exact(Xh (fun h=>⟨.inr rfl,h⟩) _ (by simp[*];rfl) (by first|rfl|(simp[*,Zd];done)|(simp only[XK,Zd];(repeat' split)<;>first|rfl|(exfalso;omega)|simp_all)) (by simp))
 (try simp only[BN]at h73);refine X1 ?_;exact(Xh (fun h=>⟨.inr rfl,h⟩) _ (by simp[*];rfl) (by first|rfl|(simp[*,Zd];done)|(simp only[XK,Zd];(repeat' split)<;>first|rfl|(exfalso;omega)|simp_all)) (by simp))
end Go.Proofs.YtdajceakaakdoaaGreat

namespace Go.Proofs.YtdajceakaakdoaaGreat
open Go Go.Hl
attribute [simp] Ob.flat
def ms114:List (Nat×List Nat):=[(16383,[0,1,3,4,8]),(16382,[1,3,4,8]),(16381,[0,2,3,4,8]),(16375,[0,1,4,8]),(16367,[0,1,3,5,8]),(16127,[0,1,3,4,9]),(16380,[2,3,4,8]),(16374,[1,4,8]),(16366,[1,3,5,8]),(16126,[1,3,4,9]),(16377,[0,3,4,8]),(16373,[0,2,4,8]),(16365,[0,2,3,5,8]),(16125,[0,2,3,4,9]),(16359,[0,1,5,8]),(16119,[0,1,4,9]),(16335,[0,1,3,8]),(16111,[0,1,3,5,9]),(15615,[0,1,3,4,10]),(16376,[3,4,8]),(16372,[2,4,8]),(16364,[2,3,5,8]),(16124,[2,3,4,9]),(16358,[1,5,8]),(16118,[1,4,9]),(16334,[1,3,8]),(16110,[1,3,5,9]),(15614,[1,3,4,10]),(16369,[0,4,8]),(16361,[0,3,5,8]),(16121,[0,3,4,9]),(16357,[0,2,5,8]),(16117,[0,2,4,9]),(16333,[0,2,3,8]),(16109,[0,2,3,5,9]),(15613,[0,2,3,4,10]),(16327,[0,1,6,8]),(16103,[0,1,5,9]),(15607,[0,1,4,10]),(16079,[0,1,3,9]),(15599,[0,1,3,5,10]),(14591,[0,1,3,4]),(16368,[4,8]),(16360,[3,5,8]),(16120,[3,4,9]),(16356,[2,5,8]),(16116,[2,4,9]),(16332,[2,3,8]),(16108,[2,3,5,9]),(15612,[2,3,4,10]),(16326,[1,6,8]),(16102,[1,5,9]),(15606,[1,4,10]),(16078,[1,3,9]),(15598,[1,3,5,10]),(14590,[1,3,4]),(16353,[0,5,8]),(16113,[0,4,9]),(16329,[0,3,8]),(16105,[0,3,5,9]),(15609,[0,3,4,10]),(16325,[0,2,6,8]),(16101,[0,2,5,9]),(15605,[0,2,4,10]),(16077,[0,2,3,9]),(15597,[0,2,3,5,10]),(14589,[0,2,3,4]),(16263,[0,1,7,8]),(16071,[0,1,6,9]),(15591,[0,1,5,10]),(14583,[0,1,4]),(15567,[0,1,3,10]),(14575,[0,1,3,5]),(16352,[5,8]),(16112,[4,9]),(16328,[3,8]),(16104,[3,5,9]),(15608,[3,4,10]),(16324,[2,6,8]),(16100,[2,5,9]),(15604,[2,4,10]),(16076,[2,3,9]),(15596,[2,3,5,10]),(14588,[2,3,4]),(16262,[1,7,8]),(16070,[1,6,9]),(15590,[1,5,10]),(14582,[1,4]),(15566,[1,3,10]),(14574,[1,3,5]),(16321,[0,6,8]),(16097,[0,5,9]),(15601,[0,4,10]),(16073,[0,3,9]),(15593,[0,3,5,10]),(14585,[0,3,4]),(16261,[0,2,7,8]),(16069,[0,2,6,9]),(15589,[0,2,5,10]),(14581,[0,2,4]),(15565,[0,2,3,10]),(14573,[0,2,3,5]),(16135,[0,1,8]),(16007,[0,1,7,9]),(15559,[0,1,6,10]),(14567,[0,1,5]),(14543,[0,1,3]),(16320,[6,8]),(16096,[5,9]),(15600,[4,10]),(16072,[3,9]),(15592,[3,5,10]),(14584,[3,4]),(16260,[2,7,8]),(16068,[2,6,9]),(15588,[2,5,10]),(14580,[2,4]),(15564,[2,3,10]),(14572,[2,3,5]),(16134,[1,8]),(16006,[1,7,9]),(15558,[1,6,10]),(14566,[1,5]),(14542,[1,3]),(16257,[0,7,8]),(16065,[0,6,9]),(15585,[0,5,10]),(14577,[0,4]),(15561,[0,3,10]),(14569,[0,3,5]),(16133,[0,2,8]),(16005,[0,2,7,9]),(15557,[0,2,6,10]),(14565,[0,2,5]),(14541,[0,2,3]),(15879,[0,1,9]),(15495,[0,1,7,10]),(14535,[0,1,6]),(16256,[7,8]),(16064,[6,9]),(15584,[5,10]),(14576,[4]),(15560,[3,10]),(14568,[3,5]),(16132,[2,8]),(16004,[2,7,9]),(15556,[2,6,10]),(14564,[2,5]),(14540,[2,3]),(15878,[1,9]),(15494,[1,7,10]),(14534,[1,6]),(16129,[0,8]),(16001,[0,7,9]),(15553,[0,6,10]),(14561,[0,5]),(14537,[0,3]),(15877,[0,2,9]),(15493,[0,2,7,10]),(14533,[0,2,6]),(15367,[0,1,10]),(14471,[0,1,7]),(16128,[8]),(16000,[7,9]),(15552,[6,10]),(14560,[5]),(14536,[3]),(15876,[2,9]),(15492,[2,7,10]),(14532,[2,6]),(15366,[1,10]),(14470,[1,7]),(15873,[0,9]),(15489,[0,7,10]),(14529,[0,6]),(15365,[0,2,10]),(14469,[0,2,7]),(14343,[0,1,11]),(15872,[9]),(15488,[7,10]),(14528,[6]),(15364,[2,10]),(14468,[2,7]),(14342,[1,11]),(15361,[0,10]),(14465,[0,7]),(14341,[0,2,11]),(12295,[0,1]),(15360,[10]),(14464,[7]),(14340,[2,11]),(12294,[1]),(14337,[0,11]),(12293,[0,2]),(14336,[11]),(12292,[2]),(12289,[0]),(12288,[12]),(8192,[13])]
noncomputable def rgD (d:Nat):Code→Option (Array Oper)
 | .region _ ops _=>if(ops[0]?.bind (·.dst))=some d then some ops else none
 | .seq a b=>match rgD d a with
   |some p=>some p
   |none=>rgD d b
 | .cond _ a b=>match rgD d a with
   |some p=>some p
   |none=>rgD d b
 | .block _ b=>rgD d b
 | .loop b=>rgD d b
 | .scope b=>rgD d b
 |_=>none
def ZI (regs:List (Nat×RV)) (oA oB:List (Nat×Ob)) (outs:List (Nat×Nat×RV)) (R:List Nat):HS:=
 {trS ⟨⟨95,none⟩,regs,[]⟩ outs R with objs:=if R.contains 10 then oA else oB}
def Qz (regs:List (Nat×RV)) (o:List (Nat×Ob)) (outs:List (Nat×Nat×RV)) (R:List Nat):HS:=
 {trS ⟨⟨95,none⟩,regs,[]⟩ outs R with objs:=o}
def X1z (l:List Bool):List (List CD):=l.map fun b=>[bC b]
@[simp] theorem encBl_len (l:List Bool):(X1z l).length=l.length:=by simp[X1z]
theorem X20 {l:List Bool} {k:Nat} {b:Bool} (h:l[k]? =some b):(X1z l)[k]? =some [bC b]:=by simp[X1z,h]
theorem Xbo (l:List Bool) (k:Nat) (b:Bool):(X1z l).set k [CD.lit (.bool b)]=X1z (l.set k b):=by
 unfold X1z;rw[List.map_set]
theorem XbF (n:Nat):X1z (List.replicate n false)=List.replicate n [bC false]:=by simp[X1z]
@[simp] def lBl (l:List Bool):TV:=.one (.c (.sl 1 (X1z l)))
end Go.Proofs.YtdajceakaakdoaaGreat
