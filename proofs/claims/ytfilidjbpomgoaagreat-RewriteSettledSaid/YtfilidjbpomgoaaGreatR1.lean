/- Part 1: contracts of functions of the program and of the reference, and plain facts about what they compute; used by the proof of the claimed statement. Conditions: as each theorem states. -/
import Derived.Test.YtfilidjbpomgoaaGreatProg
import Derived.Test.YtfilidjbpomgoaaGreatHlZ
import Derived.KernelRfl
set_option linter.unusedSimpArgs false
set_option linter.unusedVariables false
set_option linter.unnecessarySimpa false
set_option maxRecDepth 100000
set_option maxHeartbeats 2000000
namespace Go.Proofs.YtfilidjbpomgoaaGreat
open Go Go.Hl

@[simp] theorem ty2 : tyOf Tryz.prog 2 = some ⟨1, 8, false, [.int .i64 0], .other⟩ := by kernel_rfl
@[simp] theorem ty3 : tyOf Tryz.prog 3 = some ⟨1, 8, false, [.int .i64 0], .other⟩ := by kernel_rfl
@[simp] theorem ty4 : tyOf Tryz.prog 4 = some ⟨1, 1, false, [.bool false], .other⟩ := by kernel_rfl
@[simp] theorem bt4 : boolT Tryz.prog 4 = true := by kernel_rfl
@[simp] theorem ty5 : tyOf Tryz.prog 5 = some ⟨1, 1, false, [.int .u8 0], .other⟩ := by kernel_rfl
@[simp] theorem ty6 : tyOf Tryz.prog 6 = some ⟨1, 1, false, [.int .u8 0], .other⟩ := by kernel_rfl
@[simp] theorem ty7 : tyOf Tryz.prog 7 = some ⟨4, 24, true, [.int .i64 0, .int .i64 0, .bool false, .int .u8 0], .struct [(0, 2), (1, 3), (2, 4), (3, 6)]⟩ := by kernel_rfl
@[simp] theorem pf7 : ptrT Tryz.prog 7 = false := by kernel_rfl
@[simp] theorem sf7 : sliceT Tryz.prog 7 = false := by kernel_rfl
@[simp] theorem ty8 : tyOf Tryz.prog 8 = some ⟨4, 24, true, [.int .i64 0, .int .i64 0, .bool false, .int .u8 0], .struct [(0, 2), (1, 3), (2, 4), (3, 6)]⟩ := by kernel_rfl
@[simp] theorem pf8 : ptrT Tryz.prog 8 = false := by kernel_rfl
@[simp] theorem sf8 : sliceT Tryz.prog 8 = false := by kernel_rfl
@[simp] theorem ty9 : tyOf Tryz.prog 9 = some ⟨1, 16, false, [.string ⟨#[]⟩], .other⟩ := by kernel_rfl
@[simp] theorem st9 : strT Tryz.prog 9 = true := by kernel_rfl
@[simp] theorem ty10 : tyOf Tryz.prog 10 = some ⟨1, 16, false, [.string ⟨#[]⟩], .other⟩ := by kernel_rfl
@[simp] theorem st10 : strT Tryz.prog 10 = true := by kernel_rfl
@[simp] theorem ty11 : tyOf Tryz.prog 11 = some ⟨1, 16, false, [.string ⟨#[]⟩], .other⟩ := by kernel_rfl
@[simp] theorem st11 : strT Tryz.prog 11 = true := by kernel_rfl
@[simp] theorem pf13 : ptrT Tryz.prog 13 = false := by kernel_rfl
@[simp] theorem sf13 : sliceT Tryz.prog 13 = false := by kernel_rfl
@[simp] theorem pf14 : ptrT Tryz.prog 14 = false := by kernel_rfl
@[simp] theorem sf14 : sliceT Tryz.prog 14 = false := by kernel_rfl
@[simp] theorem ty15 : tyOf Tryz.prog 15 = some ⟨1, 8, false, [.pointer none], .other⟩ := by kernel_rfl
@[simp] theorem pt15 : ptrT Tryz.prog 15 = true := by kernel_rfl
@[simp] theorem ty16 : tyOf Tryz.prog 16 = some ⟨1, 8, false, [.pointer none], .other⟩ := by kernel_rfl
@[simp] theorem pt16 : ptrT Tryz.prog 16 = true := by kernel_rfl
@[simp] theorem ty17 : tyOf Tryz.prog 17 = some ⟨1, 8, false, [.pointer none], .other⟩ := by kernel_rfl
@[simp] theorem pt17 : ptrT Tryz.prog 17 = true := by kernel_rfl
@[simp] theorem ty18 : tyOf Tryz.prog 18 = some ⟨1, 8, true, [.pointer none], .struct [(0, 17)]⟩ := by kernel_rfl
@[simp] theorem pf18 : ptrT Tryz.prog 18 = false := by kernel_rfl
@[simp] theorem sf18 : sliceT Tryz.prog 18 = false := by kernel_rfl
@[simp] theorem ty19 : tyOf Tryz.prog 19 = some ⟨1, 8, true, [.pointer none], .struct [(0, 17)]⟩ := by kernel_rfl
@[simp] theorem pf19 : ptrT Tryz.prog 19 = false := by kernel_rfl
@[simp] theorem sf19 : sliceT Tryz.prog 19 = false := by kernel_rfl
@[simp] theorem ty20 : tyOf Tryz.prog 20 = some ⟨1, 16, false, [.nilIface], .other⟩ := by kernel_rfl
@[simp] theorem ty21 : tyOf Tryz.prog 21 = some ⟨1, 4, false, [.int .i32 0], .other⟩ := by kernel_rfl
@[simp] theorem ty22 : tyOf Tryz.prog 22 = some ⟨1, 24, false, [.slice none 0 0], .slice 65⟩ := by kernel_rfl
@[simp] theorem pf22 : ptrT Tryz.prog 22 = false := by kernel_rfl
@[simp] theorem sl22 : sliceT Tryz.prog 22 = true := by kernel_rfl
@[simp] theorem ty23 : tyOf Tryz.prog 23 = some ⟨1, 24, false, [.slice none 0 0], .slice 68⟩ := by kernel_rfl
@[simp] theorem pf23 : ptrT Tryz.prog 23 = false := by kernel_rfl
@[simp] theorem sl23 : sliceT Tryz.prog 23 = true := by kernel_rfl
@[simp] theorem ty24 : tyOf Tryz.prog 24 = some ⟨1, 24, false, [.slice none 0 0], .slice 56⟩ := by kernel_rfl
@[simp] theorem pf24 : ptrT Tryz.prog 24 = false := by kernel_rfl
@[simp] theorem sl24 : sliceT Tryz.prog 24 = true := by kernel_rfl
@[simp] theorem ty25 : tyOf Tryz.prog 25 = some ⟨3, 72, true, [.slice none 0 0, .slice none 0 0, .slice none 0 0], .struct [(0, 22), (1, 23), (2, 24)]⟩ := by kernel_rfl
@[simp] theorem pf25 : ptrT Tryz.prog 25 = false := by kernel_rfl
@[simp] theorem sf25 : sliceT Tryz.prog 25 = false := by kernel_rfl
@[simp] theorem ty26 : tyOf Tryz.prog 26 = some ⟨3, 72, true, [.slice none 0 0, .slice none 0 0, .slice none 0 0], .struct [(0, 22), (1, 23), (2, 24)]⟩ := by kernel_rfl
@[simp] theorem pf26 : ptrT Tryz.prog 26 = false := by kernel_rfl
@[simp] theorem sf26 : sliceT Tryz.prog 26 = false := by kernel_rfl
@[simp] theorem ty27 : tyOf Tryz.prog 27 = some ⟨1, 8, false, [.nilFunc], .other⟩ := by kernel_rfl
@[simp] theorem ty28 : tyOf Tryz.prog 28 = some ⟨1, 8, false, [.nilFunc], .other⟩ := by kernel_rfl
@[simp] theorem ty29 : tyOf Tryz.prog 29 = some ⟨1, 8, false, [.int .i64 0], .other⟩ := by kernel_rfl
@[simp] theorem ty31 : tyOf Tryz.prog 31 = some ⟨1, 8, false, [.nilFunc], .other⟩ := by kernel_rfl
@[simp] theorem ty32 : tyOf Tryz.prog 32 = some ⟨1, 8, false, [.nilFunc], .other⟩ := by kernel_rfl
@[simp] theorem ty33 : tyOf Tryz.prog 33 = some ⟨1, 8, false, [.nilFunc], .other⟩ := by kernel_rfl
@[simp] theorem ty34 : tyOf Tryz.prog 34 = some ⟨1, 8, false, [.nilFunc], .other⟩ := by kernel_rfl
@[simp] theorem ty35 : tyOf Tryz.prog 35 = some ⟨1, 8, false, [.nilFunc], .other⟩ := by kernel_rfl
@[simp] theorem ty36 : tyOf Tryz.prog 36 = some ⟨1, 8, false, [.nilFunc], .other⟩ := by kernel_rfl
@[simp] theorem ty37 : tyOf Tryz.prog 37 = some ⟨1, 24, false, [.slice none 0 0], .slice 41⟩ := by kernel_rfl
@[simp] theorem pf37 : ptrT Tryz.prog 37 = false := by kernel_rfl
@[simp] theorem sl37 : sliceT Tryz.prog 37 = true := by kernel_rfl
@[simp] theorem ty38 : tyOf Tryz.prog 38 = some ⟨1, 8, false, [.nilFunc], .other⟩ := by kernel_rfl
@[simp] theorem ty39 : tyOf Tryz.prog 39 = some ⟨1, 24, false, [.slice none 0 0], .slice 3⟩ := by kernel_rfl
@[simp] theorem pf39 : ptrT Tryz.prog 39 = false := by kernel_rfl
@[simp] theorem sl39 : sliceT Tryz.prog 39 = true := by kernel_rfl
@[simp] theorem ty40 : tyOf Tryz.prog 40 = some ⟨3, 72, true, [.slice none 0 0, .slice none 0 0, .slice none 0 0], .struct [(0, 39), (1, 39), (2, 39)]⟩ := by kernel_rfl
@[simp] theorem pf40 : ptrT Tryz.prog 40 = false := by kernel_rfl
@[simp] theorem sf40 : sliceT Tryz.prog 40 = false := by kernel_rfl
@[simp] theorem ty41 : tyOf Tryz.prog 41 = some ⟨3, 72, true, [.slice none 0 0, .slice none 0 0, .slice none 0 0], .struct [(0, 39), (1, 39), (2, 39)]⟩ := by kernel_rfl
@[simp] theorem pf41 : ptrT Tryz.prog 41 = false := by kernel_rfl
@[simp] theorem sf41 : sliceT Tryz.prog 41 = false := by kernel_rfl
@[simp] theorem ty42 : tyOf Tryz.prog 42 = some ⟨2, 32, true, [.slice none 0 0, .int .i64 0], .struct [(0, 39), (1, 3)]⟩ := by kernel_rfl
@[simp] theorem pf42 : ptrT Tryz.prog 42 = false := by kernel_rfl
@[simp] theorem sf42 : sliceT Tryz.prog 42 = false := by kernel_rfl
@[simp] theorem ty43 : tyOf Tryz.prog 43 = some ⟨2, 32, true, [.slice none 0 0, .int .i64 0], .struct [(0, 39), (1, 3)]⟩ := by kernel_rfl
@[simp] theorem pf43 : ptrT Tryz.prog 43 = false := by kernel_rfl
@[simp] theorem sf43 : sliceT Tryz.prog 43 = false := by kernel_rfl
@[simp] theorem ty45 : tyOf Tryz.prog 45 = some ⟨1, 8, false, [.nilFunc], .other⟩ := by kernel_rfl
@[simp] theorem ty46 : tyOf Tryz.prog 46 = some ⟨1, 8, false, [.nilFunc], .other⟩ := by kernel_rfl
@[simp] theorem ty47 : tyOf Tryz.prog 47 = some ⟨1, 8, false, [.nilFunc], .other⟩ := by kernel_rfl
@[simp] theorem ty49 : tyOf Tryz.prog 49 = some ⟨1, 8, false, [.nilFunc], .other⟩ := by kernel_rfl
@[simp] theorem ty50 : tyOf Tryz.prog 50 = some ⟨1, 8, false, [.int .i64 0], .other⟩ := by kernel_rfl
@[simp] theorem ty51 : tyOf Tryz.prog 51 = some ⟨1, 8, false, [.int .i64 0], .other⟩ := by kernel_rfl
@[simp] theorem ty52 : tyOf Tryz.prog 52 = some ⟨1, 24, false, [.slice none 0 0], .slice 54⟩ := by kernel_rfl
@[simp] theorem pf52 : ptrT Tryz.prog 52 = false := by kernel_rfl
@[simp] theorem sl52 : sliceT Tryz.prog 52 = true := by kernel_rfl
@[simp] theorem ty53 : tyOf Tryz.prog 53 = some ⟨3, 40, true, [.int .i64 0, .int .i64 0, .slice none 0 0], .struct [(0, 51), (1, 3), (2, 52)]⟩ := by kernel_rfl
@[simp] theorem pf53 : ptrT Tryz.prog 53 = false := by kernel_rfl
@[simp] theorem sf53 : sliceT Tryz.prog 53 = false := by kernel_rfl
@[simp] theorem ty54 : tyOf Tryz.prog 54 = some ⟨3, 40, true, [.int .i64 0, .int .i64 0, .slice none 0 0], .struct [(0, 51), (1, 3), (2, 52)]⟩ := by kernel_rfl
@[simp] theorem pf54 : ptrT Tryz.prog 54 = false := by kernel_rfl
@[simp] theorem sf54 : sliceT Tryz.prog 54 = false := by kernel_rfl
@[simp] theorem ty55 : tyOf Tryz.prog 55 = some ⟨10, 144, true, [.int .i64 0, .int .i64 0, .int .i64 0, .int .i64 0, .int .i64 0, .int .i64 0, .slice none 0 0, .slice none 0 0, .slice none 0 0, .slice none 0 0], .struct [(0, 50), (1, 3), (2, 3), (3, 3), (4, 54), (7, 24), (8, 24), (9, 39)]⟩ := by kernel_rfl
@[simp] theorem pf55 : ptrT Tryz.prog 55 = false := by kernel_rfl
@[simp] theorem sf55 : sliceT Tryz.prog 55 = false := by kernel_rfl
@[simp] theorem ty56 : tyOf Tryz.prog 56 = some ⟨10, 144, true, [.int .i64 0, .int .i64 0, .int .i64 0, .int .i64 0, .int .i64 0, .int .i64 0, .slice none 0 0, .slice none 0 0, .slice none 0 0, .slice none 0 0], .struct [(0, 50), (1, 3), (2, 3), (3, 3), (4, 54), (7, 24), (8, 24), (9, 39)]⟩ := by kernel_rfl
@[simp] theorem pf56 : ptrT Tryz.prog 56 = false := by kernel_rfl
@[simp] theorem sf56 : sliceT Tryz.prog 56 = false := by kernel_rfl
@[simp] theorem ty57 : tyOf Tryz.prog 57 = some ⟨1, 8, false, [.nilFunc], .other⟩ := by kernel_rfl
@[simp] theorem ty58 : tyOf Tryz.prog 58 = some ⟨1, 8, false, [.nilFunc], .other⟩ := by kernel_rfl
@[simp] theorem ty59 : tyOf Tryz.prog 59 = some ⟨1, 8, false, [.nilFunc], .other⟩ := by kernel_rfl
@[simp] theorem ty60 : tyOf Tryz.prog 60 = some ⟨1, 8, false, [.nilFunc], .other⟩ := by kernel_rfl
@[simp] theorem ty61 : tyOf Tryz.prog 61 = some ⟨1, 8, false, [.nilFunc], .other⟩ := by kernel_rfl
@[simp] theorem ty62 : tyOf Tryz.prog 62 = some ⟨1, 8, false, [.nilFunc], .other⟩ := by kernel_rfl
@[simp] theorem ty63 : tyOf Tryz.prog 63 = some ⟨1, 8, false, [.int .i64 0], .other⟩ := by kernel_rfl
@[simp] theorem ty64 : tyOf Tryz.prog 64 = some ⟨5, 48, true, [.string ⟨#[]⟩, .int .i64 0, .int .i64 0, .int .i64 0, .int .i64 0], .struct [(0, 9), (1, 63), (2, 3), (3, 3), (4, 3)]⟩ := by kernel_rfl
@[simp] theorem pf64 : ptrT Tryz.prog 64 = false := by kernel_rfl
@[simp] theorem sf64 : sliceT Tryz.prog 64 = false := by kernel_rfl
@[simp] theorem ty65 : tyOf Tryz.prog 65 = some ⟨5, 48, true, [.string ⟨#[]⟩, .int .i64 0, .int .i64 0, .int .i64 0, .int .i64 0], .struct [(0, 9), (1, 63), (2, 3), (3, 3), (4, 3)]⟩ := by kernel_rfl
@[simp] theorem pf65 : ptrT Tryz.prog 65 = false := by kernel_rfl
@[simp] theorem sf65 : sliceT Tryz.prog 65 = false := by kernel_rfl
@[simp] theorem ty66 : tyOf Tryz.prog 66 = some ⟨1, 8, false, [.nilFunc], .other⟩ := by kernel_rfl
@[simp] theorem ty67 : tyOf Tryz.prog 67 = some ⟨6, 72, true, [.string ⟨#[]⟩, .int .i64 0, .int .i64 0, .int .i64 0, .int .i64 0, .slice none 0 0], .struct [(0, 9), (1, 3), (2, 3), (3, 54)]⟩ := by kernel_rfl
@[simp] theorem pf67 : ptrT Tryz.prog 67 = false := by kernel_rfl
@[simp] theorem sf67 : sliceT Tryz.prog 67 = false := by kernel_rfl
@[simp] theorem ty68 : tyOf Tryz.prog 68 = some ⟨6, 72, true, [.string ⟨#[]⟩, .int .i64 0, .int .i64 0, .int .i64 0, .int .i64 0, .slice none 0 0], .struct [(0, 9), (1, 3), (2, 3), (3, 54)]⟩ := by kernel_rfl
@[simp] theorem pf68 : ptrT Tryz.prog 68 = false := by kernel_rfl
@[simp] theorem sf68 : sliceT Tryz.prog 68 = false := by kernel_rfl
@[simp] theorem ty69 : tyOf Tryz.prog 69 = some ⟨1, 8, false, [.nilFunc], .other⟩ := by kernel_rfl
@[simp] theorem ty70 : tyOf Tryz.prog 70 = some ⟨1, 8, false, [.nilFunc], .other⟩ := by kernel_rfl
@[simp] theorem ty71 : tyOf Tryz.prog 71 = some ⟨1, 8, false, [.nilFunc], .other⟩ := by kernel_rfl
@[simp] theorem ty72 : tyOf Tryz.prog 72 = some ⟨1, 8, false, [.nilFunc], .other⟩ := by kernel_rfl
@[simp] theorem ty73 : tyOf Tryz.prog 73 = some ⟨1, 8, false, [.nilFunc], .other⟩ := by kernel_rfl
@[simp] theorem ty74 : tyOf Tryz.prog 74 = some ⟨1, 8, false, [.nilFunc], .other⟩ := by kernel_rfl
@[simp] theorem ty75 : tyOf Tryz.prog 75 = some ⟨1, 8, false, [.nilFunc], .other⟩ := by kernel_rfl
@[simp] theorem ty76 : tyOf Tryz.prog 76 = some ⟨1, 8, false, [.nilFunc], .other⟩ := by kernel_rfl
@[simp] theorem ty77 : tyOf Tryz.prog 77 = some ⟨1, 24, false, [.slice none 0 0], .slice 4⟩ := by kernel_rfl
@[simp] theorem pf77 : ptrT Tryz.prog 77 = false := by kernel_rfl
@[simp] theorem sl77 : sliceT Tryz.prog 77 = true := by kernel_rfl
@[simp] theorem ty78 : tyOf Tryz.prog 78 = some ⟨1, 8, false, [.nilFunc], .other⟩ := by kernel_rfl
@[simp] theorem ty79 : tyOf Tryz.prog 79 = some ⟨1, 8, false, [.nilFunc], .other⟩ := by kernel_rfl
@[simp] theorem ty80 : tyOf Tryz.prog 80 = some ⟨1, 8, false, [.nilFunc], .other⟩ := by kernel_rfl
@[simp] theorem ty81 : tyOf Tryz.prog 81 = some ⟨1, 8, false, [.nilFunc], .other⟩ := by kernel_rfl
@[simp] theorem ty83 : tyOf Tryz.prog 83 = some ⟨1, 8, false, [.nilFunc], .other⟩ := by kernel_rfl
@[simp] theorem ty85 : tyOf Tryz.prog 85 = some ⟨1, 8, false, [.nilFunc], .other⟩ := by kernel_rfl
@[simp] theorem ty86 : tyOf Tryz.prog 86 = some ⟨3, 56, true, [.slice none 0 0, .slice none 0 0, .int .i64 0], .struct [(0, 39), (1, 39), (2, 3)]⟩ := by kernel_rfl
@[simp] theorem pf86 : ptrT Tryz.prog 86 = false := by kernel_rfl
@[simp] theorem sf86 : sliceT Tryz.prog 86 = false := by kernel_rfl
@[simp] theorem ty87 : tyOf Tryz.prog 87 = some ⟨3, 56, true, [.slice none 0 0, .slice none 0 0, .int .i64 0], .struct [(0, 39), (1, 39), (2, 3)]⟩ := by kernel_rfl
@[simp] theorem pf87 : ptrT Tryz.prog 87 = false := by kernel_rfl
@[simp] theorem sf87 : sliceT Tryz.prog 87 = false := by kernel_rfl
@[simp] theorem ty89 : tyOf Tryz.prog 89 = some ⟨1, 8, false, [.nilFunc], .other⟩ := by kernel_rfl
@[simp] theorem ty91 : tyOf Tryz.prog 91 = some ⟨1, 8, false, [.nilFunc], .other⟩ := by kernel_rfl
@[simp] theorem ty92 : tyOf Tryz.prog 92 = some ⟨1, 8, false, [.nilFunc], .other⟩ := by kernel_rfl
@[simp] theorem ty93 : tyOf Tryz.prog 93 = some ⟨1, 8, false, [.nilFunc], .other⟩ := by kernel_rfl
@[simp] theorem ty94 : tyOf Tryz.prog 94 = some ⟨2, 16, true, [.int .i64 0, .bool false], .struct [(0, 3), (1, 4)]⟩ := by kernel_rfl
@[simp] theorem pf94 : ptrT Tryz.prog 94 = false := by kernel_rfl
@[simp] theorem sf94 : sliceT Tryz.prog 94 = false := by kernel_rfl
@[simp] theorem ty95 : tyOf Tryz.prog 95 = some ⟨2, 16, true, [.int .i64 0, .bool false], .struct [(0, 3), (1, 4)]⟩ := by kernel_rfl
@[simp] theorem pf95 : ptrT Tryz.prog 95 = false := by kernel_rfl
@[simp] theorem sf95 : sliceT Tryz.prog 95 = false := by kernel_rfl
@[simp] theorem ty96 : tyOf Tryz.prog 96 = some ⟨1, 8, false, [.nilFunc], .other⟩ := by kernel_rfl
@[simp] theorem ty97 : tyOf Tryz.prog 97 = some ⟨1, 8, false, [.nilFunc], .other⟩ := by kernel_rfl
@[simp] theorem ty98 : tyOf Tryz.prog 98 = some ⟨3, 24, true, [.int .i64 0, .int .i64 0, .int .i64 0], .struct [(0, 3), (1, 3), (2, 3)]⟩ := by kernel_rfl
@[simp] theorem pf98 : ptrT Tryz.prog 98 = false := by kernel_rfl
@[simp] theorem sf98 : sliceT Tryz.prog 98 = false := by kernel_rfl
@[simp] theorem ty99 : tyOf Tryz.prog 99 = some ⟨3, 24, true, [.int .i64 0, .int .i64 0, .int .i64 0], .struct [(0, 3), (1, 3), (2, 3)]⟩ := by kernel_rfl
@[simp] theorem pf99 : ptrT Tryz.prog 99 = false := by kernel_rfl
@[simp] theorem sf99 : sliceT Tryz.prog 99 = false := by kernel_rfl
@[simp] theorem ty100 : tyOf Tryz.prog 100 = some ⟨1, 8, false, [.nilFunc], .other⟩ := by kernel_rfl
@[simp] theorem ty101 : tyOf Tryz.prog 101 = some ⟨1, 8, false, [.nilFunc], .other⟩ := by kernel_rfl
@[simp] theorem ty102 : tyOf Tryz.prog 102 = some ⟨1, 8, false, [.nilFunc], .other⟩ := by kernel_rfl
@[simp] theorem ty103 : tyOf Tryz.prog 103 = some ⟨1, 8, false, [.nilFunc], .other⟩ := by kernel_rfl
@[simp] theorem ty104 : tyOf Tryz.prog 104 = some ⟨1, 8, false, [.nilFunc], .other⟩ := by kernel_rfl
@[simp] theorem ty105 : tyOf Tryz.prog 105 = some ⟨1, 8, false, [.nilFunc], .other⟩ := by kernel_rfl
@[simp] theorem ty106 : tyOf Tryz.prog 106 = some ⟨1, 8, false, [.nilFunc], .other⟩ := by kernel_rfl
@[simp] theorem ty107 : tyOf Tryz.prog 107 = some ⟨1, 8, false, [.nilFunc], .other⟩ := by kernel_rfl
@[simp] theorem ty108 : tyOf Tryz.prog 108 = some ⟨1, 8, false, [.nilFunc], .other⟩ := by kernel_rfl
@[simp] theorem ty110 : tyOf Tryz.prog 110 = some ⟨1, 8, false, [.nilFunc], .other⟩ := by kernel_rfl
@[simp] theorem ty111 : tyOf Tryz.prog 111 = some ⟨1, 8, false, [.nilFunc], .other⟩ := by kernel_rfl
@[simp] theorem ty112 : tyOf Tryz.prog 112 = some ⟨1, 8, false, [.nilFunc], .other⟩ := by kernel_rfl
@[simp] theorem ty113 : tyOf Tryz.prog 113 = some ⟨1, 8, false, [.nilFunc], .other⟩ := by kernel_rfl
@[simp] theorem ty115 : tyOf Tryz.prog 115 = some ⟨1, 8, false, [.nilFunc], .other⟩ := by kernel_rfl
@[simp] theorem ty116 : tyOf Tryz.prog 116 = some ⟨1, 8, false, [.nilFunc], .other⟩ := by kernel_rfl
@[simp] theorem ty117 : tyOf Tryz.prog 117 = some ⟨1, 8, false, [.nilFunc], .other⟩ := by kernel_rfl
@[simp] theorem ty118 : tyOf Tryz.prog 118 = some ⟨1, 8, false, [.nilFunc], .other⟩ := by kernel_rfl
@[simp] theorem ty120 : tyOf Tryz.prog 120 = some ⟨1, 8, false, [.nilFunc], .other⟩ := by kernel_rfl
@[simp] theorem ty121 : tyOf Tryz.prog 121 = some ⟨1, 8, false, [.nilFunc], .other⟩ := by kernel_rfl
@[simp] theorem ty122 : tyOf Tryz.prog 122 = some ⟨1, 8, false, [.nilFunc], .other⟩ := by kernel_rfl
@[simp] theorem ty123 : tyOf Tryz.prog 123 = some ⟨1, 8, false, [.nilFunc], .other⟩ := by kernel_rfl
@[simp] theorem ty124 : tyOf Tryz.prog 124 = some ⟨1, 8, false, [.pointer none], .other⟩ := by kernel_rfl
@[simp] theorem pt124 : ptrT Tryz.prog 124 = true := by kernel_rfl
@[simp] theorem ty125 : tyOf Tryz.prog 125 = some ⟨1, 8, false, [.nilFunc], .other⟩ := by kernel_rfl
@[simp] theorem ty126 : tyOf Tryz.prog 126 = some ⟨1, 8, false, [.nilFunc], .other⟩ := by kernel_rfl
@[simp] theorem ty127 : tyOf Tryz.prog 127 = some ⟨1, 24, false, [.slice none 0 0], .slice 63⟩ := by kernel_rfl
@[simp] theorem pf127 : ptrT Tryz.prog 127 = false := by kernel_rfl
@[simp] theorem sl127 : sliceT Tryz.prog 127 = true := by kernel_rfl
@[simp] theorem ty128 : tyOf Tryz.prog 128 = some ⟨1, 8, false, [.nilFunc], .other⟩ := by kernel_rfl
@[simp] theorem ty129 : tyOf Tryz.prog 129 = some ⟨1, 8, false, [.nilFunc], .other⟩ := by kernel_rfl
@[simp] theorem ty130 : tyOf Tryz.prog 130 = some ⟨1, 8, false, [.nilFunc], .other⟩ := by kernel_rfl
@[simp] theorem ty131 : tyOf Tryz.prog 131 = some ⟨1, 24, false, [.slice none 0 0], .slice 24⟩ := by kernel_rfl
@[simp] theorem pf131 : ptrT Tryz.prog 131 = false := by kernel_rfl
@[simp] theorem sl131 : sliceT Tryz.prog 131 = true := by kernel_rfl
@[simp] theorem ty132 : tyOf Tryz.prog 132 = some ⟨1, 8, false, [.nilFunc], .other⟩ := by kernel_rfl
@[simp] theorem ty133 : tyOf Tryz.prog 133 = some ⟨1, 8, false, [.nilFunc], .other⟩ := by kernel_rfl
@[simp] theorem ty134 : tyOf Tryz.prog 134 = some ⟨1, 8, false, [.nilFunc], .other⟩ := by kernel_rfl
@[simp] theorem ty135 : tyOf Tryz.prog 135 = some ⟨1, 8, false, [.nilFunc], .other⟩ := by kernel_rfl
@[simp] theorem ty136 : tyOf Tryz.prog 136 = some ⟨1, 8, false, [.nilFunc], .other⟩ := by kernel_rfl
@[simp] theorem ty138 : tyOf Tryz.prog 138 = some ⟨1, 8, false, [.nilFunc], .other⟩ := by kernel_rfl
@[simp] theorem ty139 : tyOf Tryz.prog 139 = some ⟨1, 8, false, [.nilFunc], .other⟩ := by kernel_rfl
@[simp] theorem ty140 : tyOf Tryz.prog 140 = some ⟨1, 8, false, [.nilFunc], .other⟩ := by kernel_rfl
@[simp] theorem ty141 : tyOf Tryz.prog 141 = some ⟨1, 8, false, [.nilFunc], .other⟩ := by kernel_rfl
@[simp] theorem ty142 : tyOf Tryz.prog 142 = some ⟨1, 8, false, [.nilFunc], .other⟩ := by kernel_rfl
@[simp] theorem ty144 : tyOf Tryz.prog 144 = some ⟨1, 8, false, [.nilFunc], .other⟩ := by kernel_rfl
@[simp] theorem ty145 : tyOf Tryz.prog 145 = some ⟨1, 8, false, [.nilFunc], .other⟩ := by kernel_rfl
@[simp] theorem ty146 : tyOf Tryz.prog 146 = some ⟨2, 16, true, [.int .i64 0, .int .i64 0], .struct [(0, 3), (1, 3)]⟩ := by kernel_rfl
@[simp] theorem pf146 : ptrT Tryz.prog 146 = false := by kernel_rfl
@[simp] theorem sf146 : sliceT Tryz.prog 146 = false := by kernel_rfl
@[simp] theorem ty147 : tyOf Tryz.prog 147 = some ⟨2, 16, true, [.int .i64 0, .int .i64 0], .struct [(0, 3), (1, 3)]⟩ := by kernel_rfl
@[simp] theorem pf147 : ptrT Tryz.prog 147 = false := by kernel_rfl
@[simp] theorem sf147 : sliceT Tryz.prog 147 = false := by kernel_rfl
@[simp] theorem ty149 : tyOf Tryz.prog 149 = some ⟨1, 8, false, [.nilFunc], .other⟩ := by kernel_rfl
@[simp] theorem ty150 : tyOf Tryz.prog 150 = some ⟨1, 8, false, [.nilFunc], .other⟩ := by kernel_rfl
@[simp] theorem ty151 : tyOf Tryz.prog 151 = some ⟨1, 8, false, [.nilFunc], .other⟩ := by kernel_rfl
@[simp] theorem ty152 : tyOf Tryz.prog 152 = some ⟨1, 8, false, [.nilFunc], .other⟩ := by kernel_rfl
@[simp] theorem ty153 : tyOf Tryz.prog 153 = some ⟨1, 8, false, [.nilFunc], .other⟩ := by kernel_rfl
@[simp] theorem ty154 : tyOf Tryz.prog 154 = some ⟨1, 8, false, [.nilFunc], .other⟩ := by kernel_rfl
@[simp] theorem ty155 : tyOf Tryz.prog 155 = some ⟨1, 8, false, [.nilFunc], .other⟩ := by kernel_rfl
@[simp] theorem ty156 : tyOf Tryz.prog 156 = some ⟨1, 8, false, [.nilFunc], .other⟩ := by kernel_rfl
@[simp] theorem ty157 : tyOf Tryz.prog 157 = some ⟨1, 24, false, [.slice none 0 0], .slice 147⟩ := by kernel_rfl
@[simp] theorem pf157 : ptrT Tryz.prog 157 = false := by kernel_rfl
@[simp] theorem sl157 : sliceT Tryz.prog 157 = true := by kernel_rfl
@[simp] theorem ty158 : tyOf Tryz.prog 158 = some ⟨1, 8, false, [.nilFunc], .other⟩ := by kernel_rfl
@[simp] theorem ty159 : tyOf Tryz.prog 159 = some ⟨1, 8, false, [.nilFunc], .other⟩ := by kernel_rfl
@[simp] theorem ty160 : tyOf Tryz.prog 160 = some ⟨1, 8, false, [.nilFunc], .other⟩ := by kernel_rfl

@[simp] theorem fs65 : flatS Tryz.prog 65 = some [false, true, true, true, true] := by kernel_rfl
@[simp] theorem ar65 : arrI Tryz.prog 65 = none := by kernel_rfl
theorem wrap_in {n : Int} (h1 : -9223372036854775808 ≤ n) (h2 : n ≤ 9223372036854775807) : IntKind.i64.wrap n = n := IntWalk.i64_in n ⟨h1, h2⟩
/-! ## data -/
inductive Tm where
  | mk (op n : Int) (kids : List Tm)
mutual
def Tm.enc : Tm → List CD
  | .mk o n ks => [iC o, iC n, .sl 3 (encTs ks)]
def encTs : List Tm → List (List CD)
  | [] => []
  | t :: l => t.enc :: encTs l
end
inductive St where
  | mk (do_ cost var n : Int) (term : Tm) (then_ else_ : List St) (bounds : List Int)
def encIs (l : List Int) : List (List CD) := l.map fun n => [iC n]
mutual
def St.enc : St → List CD
  | .mk d c v n t a b bs => [iC d, iC c, iC v, iC n] ++ t.enc ++ [.sl 10 (encSs a), .sl 10 (encSs b), .sl 1 (encIs bs)]
def encSs : List St → List (List CD)
  | [] => []
  | s :: l => s.enc :: encSs l
end
structure Vr where
  name : ByteArray
  kind : Int
  low : Int
  high : Int
  init : Int
structure Ht where
  name : ByteArray
  low : Int
  high : Int
  term : Tm
structure Fl where
  vars : List Vr
  hats : List Ht
  body : List St
def Vr.enc (v : Vr) : List CD := [sC v.name, iC v.kind, iC v.low, iC v.high, iC v.init]
def Ht.enc (h : Ht) : List CD := [sC h.name, iC h.low, iC h.high] ++ h.term.enc
def encVs (l : List Vr) : List (List CD) := l.map Vr.enc
def encHs (l : List Ht) : List (List CD) := l.map Ht.enc
def Fl.enc (f : Fl) : List CD := [.sl 5 (encVs f.vars), .sl 6 (encHs f.hats), .sl 10 (encSs f.body)]

attribute [simp] Vr.enc Ht.enc Fl.enc Tm.enc St.enc

theorem encTs_map (l : List Tm) : encTs l = l.map Tm.enc := by
  induction l with
  | nil => simp [encTs]
  | cons t l ih => simp [encTs, ih]
theorem encSs_map (l : List St) : encSs l = l.map St.enc := by
  induction l with
  | nil => simp [encSs]
  | cons t l ih => simp [encSs, ih]

theorem Tm.ind {p : Tm → Prop} (h : ∀ o n ks, (∀ t ∈ ks, p t) → p (.mk o n ks)) : ∀ t, p t
  | .mk o n ks => h o n ks fun t ht => Tm.ind h t
theorem St.ind {p : St → Prop} (h : ∀ d c v n t a b bs, (∀ s ∈ a, p s) → (∀ s ∈ b, p s) → p (.mk d c v n t a b bs)) : ∀ s, p s
  | .mk d c v n t a b bs => h d c v n t a b bs (fun s hs => St.ind h s) (fun s hs => St.ind h s)

def Tm.op : Tm → Int | .mk o _ _ => o
def Tm.n : Tm → Int | .mk _ n _ => n
def Tm.kids : Tm → List Tm | .mk _ _ k => k
def St.do_ : St → Int | .mk d _ _ _ _ _ _ _ => d
def St.cost : St → Int | .mk _ c _ _ _ _ _ _ => c
def St.var : St → Int | .mk _ _ v _ _ _ _ _ => v
def St.n : St → Int | .mk _ _ _ n _ _ _ _ => n
def St.term : St → Tm | .mk _ _ _ _ t _ _ _ => t
def St.then_ : St → List St | .mk _ _ _ _ _ a _ _ => a
def St.else_ : St → List St | .mk _ _ _ _ _ _ b _ => b
def St.bounds : St → List Int | .mk _ _ _ _ _ _ _ bs => bs

/-- a value as an argument -/
abbrev aT (t : Tm) : TV := .agg (t.enc.map .c)
abbrev aS (s : St) : TV := .agg (s.enc.map .c)
abbrev aV (v : Vr) : TV := .agg (v.enc.map .c)
abbrev aH (h : Ht) : TV := .agg (h.enc.map .c)
abbrev aF (f : Fl) : TV := .agg (f.enc.map .c)
abbrev lV (l : List Vr) : TV := .one (.c (.sl 5 (encVs l)))
abbrev lS (l : List St) : TV := .one (.c (.sl 10 (encSs l)))
abbrev lT (l : List Tm) : TV := .one (.c (.sl 3 (encTs l)))
abbrev lI (l : List Int) : TV := .one (.c (.sl 1 (encIs l)))

theorem get_encT {ks : List Tm} {i : Nat} {t : Tm} (h : ks[i]? = some t) : (encTs ks)[i]? = some t.enc := by rw [encTs_map, List.getElem?_map, h]; rfl
theorem get_encS {ks : List St} {i : Nat} {t : St} (h : ks[i]? = some t) : (encSs ks)[i]? = some t.enc := by rw [encSs_map, List.getElem?_map, h]; rfl
@[simp] theorem len_encT (ks : List Tm) : (encTs ks).length = ks.length := by rw [encTs_map, List.length_map]
@[simp] theorem len_encS (ks : List St) : (encSs ks).length = ks.length := by rw [encSs_map, List.length_map]
@[simp] theorem len_encV (ks : List Vr) : (encVs ks).length = ks.length := by simp [encVs]
@[simp] theorem len_encH (ks : List Ht) : (encHs ks).length = ks.length := by simp [encHs]
@[simp] theorem len_encI (ks : List Int) : (encIs ks).length = ks.length := by simp [encIs]
@[simp] theorem get_encV (ks : List Vr) (i : Nat) : (encVs ks)[i]? = ks[i]?.map Vr.enc := by simp [encVs]
@[simp] theorem get_encH (ks : List Ht) (i : Nat) : (encHs ks)[i]? = ks[i]?.map Ht.enc := by simp [encHs]
@[simp] theorem get_encI (ks : List Int) (i : Nat) : (encIs ks)[i]? = ks[i]?.map fun n => [iC n] := by simp [encIs]
@[simp] theorem encV_nil : encVs [] = [] := rfl
@[simp] theorem encH_nil : encHs [] = [] := rfl
@[simp] theorem encI_nil : encIs [] = [] := rfl
attribute [simp] encTs encSs
theorem drop_cons {α : Type} {l : List α} {i : Nat} {x : α} (h : l[i]? = some x) : l.drop i = x :: l.drop (i + 1) := by
  have hi : i < l.length := (List.getElem?_eq_some_iff.1 h).1
  rw [List.drop_eq_getElem_cons hi]
  simp only [List.getElem?_eq_getElem hi, Option.some.injEq] at h
  rw [h]
/-- the next round of a loop over a list -/
theorem at_lt {α : Type} {l : List α} {k : Nat} (h : k < l.length) : ∃ x, l[k]? = some x ∧ l.drop k = x :: l.drop (k + 1) :=
  ⟨l[k], List.getElem?_eq_getElem h, List.drop_eq_getElem_cons h⟩
theorem wrap1 {k n : Nat} (h : k < n) (hn : n ≤ 1000000000) : IntKind.i64.wrap ((k : Int) + 1) = (k : Int) + 1 := wrap_in (by omega) (by omega)
end Go.Proofs.YtfilidjbpomgoaaGreat

namespace Go.Proofs.YtfilidjbpomgoaaGreat
open Go Go.Hl

def boundedB (a b : Int) : Bool := decide (a ≤ b) && (decide (-1048576 ≤ a) && decide (b ≤ 1048576))
theorem boundedP_con (a b : Int) (d : Nat) : Con Tryz.prog 85 true [li a, li b] (.v (lb (boundedB a b))) none d := by
  refine con_of_HT Tryz.func85 rfl (by kernel_rfl) (Nat.le_of_ble_eq_true rfl) ?_
  simp only [Tryz.f85]
  refine HT_seq <| (HT_run (by simp [*]; rfl) ?_)
  refine HT_seq <| (HT_run (by simp [*]; rfl) ?_)
  exact (HT_retE (fun h => ⟨.inr rfl, h⟩) _ (by simp [*]; rfl) (by first | rfl | (simp [*, boundedB, Bool.and_assoc]; done) | (simp only [resR, boundedB, Bool.and_assoc]; (repeat' split) <;> first | rfl | (exfalso; omega) | simp_all)) (by simp))
theorem boundedR_con (a b : Int) (d : Nat) : Con Tryz.prog 34 true [li a, li b] (.v (lb (boundedB a b))) none d := by
  refine con_of_HT Tryz.func34 rfl (by kernel_rfl) (Nat.le_of_ble_eq_true rfl) ?_
  simp only [Tryz.f34]
  refine HT_seq <| (HT_run (by simp [*]; rfl) ?_)
  refine HT_seq <| (HT_run (by simp [*]; rfl) ?_)
  exact (HT_retE (fun h => ⟨.inr rfl, h⟩) _ (by simp [*]; rfl) (by first | rfl | (simp [*, boundedB, Bool.and_assoc]; done) | (simp only [resR, boundedB, Bool.and_assoc]; (repeat' split) <;> first | rfl | (exfalso; omega) | simp_all)) (by simp))

def kidsP (o : Int) : Int × Int := if o = 0 ∨ o = 24 then (0, 0) else if o = 6 ∨ o = 7 then (1, 1) else if 8 ≤ o ∧ o ≤ 22 then (2, 2) else if o = 23 then (3, 3) else if o = 25 then (2, 33) else (-1, -1)
theorem kidsP_con (o : Int) (d : Nat) : Con Tryz.prog 121 true [li o] (.tup [li (kidsP o).1, li (kidsP o).2]) none d := by
  refine con_of_HT Tryz.func121 rfl (by kernel_rfl) (Nat.le_of_ble_eq_true rfl) ?_
  simp only [Tryz.f121]
  refine HT_seq <| (HT_run (by simp [*]; rfl) ?_)
  refine HT_seq <| HT_block <| HT_seq <| (HT_run (by simp [*]; rfl) ?_)
  refine (HT_cond rfl (fun h2 => ?_) (fun h2 => ?_))
  · try simp only [Bool.or_eq_true, Bool.and_eq_true, Bool.or_eq_false_iff, Bool.and_eq_false_iff, Bool.not_eq_true', Bool.not_eq_false', decide_eq_true_eq, decide_eq_false_iff_not] at h2
    refine HT_seq <| (HT_run (by simp [*]; rfl) ?_)
    exact (HT_retE (fun h => ⟨.inr rfl, h⟩) _ (by simp [*]; rfl) (by first | rfl | (simp [*, kidsP]; done) | (simp only [resR, kidsP]; (repeat' split) <;> first | rfl | (exfalso; omega) | simp_all)) (by simp))
  · try simp only [Bool.or_eq_true, Bool.and_eq_true, Bool.or_eq_false_iff, Bool.and_eq_false_iff, Bool.not_eq_true', Bool.not_eq_false', decide_eq_true_eq, decide_eq_false_iff_not] at h2
    refine HT_seq <| (HT_run (by simp [*]; rfl) ?_)
    refine (HT_cond rfl (fun h6 => ?_) (fun h6 => ?_))
    · try simp only [Bool.or_eq_true, Bool.and_eq_true, Bool.or_eq_false_iff, Bool.and_eq_false_iff, Bool.not_eq_true', Bool.not_eq_false', decide_eq_true_eq, decide_eq_false_iff_not] at h6
      refine HT_seq <| (HT_run (by simp [*]; rfl) ?_)
      exact (HT_retE (fun h => ⟨.inr rfl, h⟩) _ (by simp [*]; rfl) (by first | rfl | (simp [*, kidsP]; done) | (simp only [resR, kidsP]; (repeat' split) <;> first | rfl | (exfalso; omega) | simp_all)) (by simp))
    · try simp only [Bool.or_eq_true, Bool.and_eq_true, Bool.or_eq_false_iff, Bool.and_eq_false_iff, Bool.not_eq_true', Bool.not_eq_false', decide_eq_true_eq, decide_eq_false_iff_not] at h6
      refine HT_seq <| (HT_run (by simp [*]; rfl) ?_)
      refine (HT_cond rfl (fun h10 => ?_) (fun h10 => ?_))
      · try simp only [Bool.or_eq_true, Bool.and_eq_true, Bool.or_eq_false_iff, Bool.and_eq_false_iff, Bool.not_eq_true', Bool.not_eq_false', decide_eq_true_eq, decide_eq_false_iff_not] at h10
        refine HT_seq <| (HT_run (by simp [*]; rfl) ?_)
        exact (HT_retE (fun h => ⟨.inr rfl, h⟩) _ (by simp [*]; rfl) (by first | rfl | (simp [*, kidsP]; done) | (simp only [resR, kidsP]; (repeat' split) <;> first | rfl | (exfalso; omega) | simp_all)) (by simp))
      · try simp only [Bool.or_eq_true, Bool.and_eq_true, Bool.or_eq_false_iff, Bool.and_eq_false_iff, Bool.not_eq_true', Bool.not_eq_false', decide_eq_true_eq, decide_eq_false_iff_not] at h10
        refine HT_seq <| (HT_run (by simp [*]; rfl) ?_)
        refine (HT_cond rfl (fun h14 => ?_) (fun h14 => ?_))
        · try simp only [Bool.or_eq_true, Bool.and_eq_true, Bool.or_eq_false_iff, Bool.and_eq_false_iff, Bool.not_eq_true', Bool.not_eq_false', decide_eq_true_eq, decide_eq_false_iff_not] at h14
          refine HT_seq <| (HT_run (by simp [*]; rfl) ?_)
          exact (HT_retE (fun h => ⟨.inr rfl, h⟩) _ (by simp [*]; rfl) (by first | rfl | (simp [*, kidsP]; done) | (simp only [resR, kidsP]; (repeat' split) <;> first | rfl | (exfalso; omega) | simp_all)) (by simp))
        · try simp only [Bool.or_eq_true, Bool.and_eq_true, Bool.or_eq_false_iff, Bool.and_eq_false_iff, Bool.not_eq_true', Bool.not_eq_false', decide_eq_true_eq, decide_eq_false_iff_not] at h14
          refine HT_seq <| (HT_run (by simp [*]; rfl) ?_)
          refine (HT_cond rfl (fun h18 => ?_) (fun h18 => HT_skip ?_))
          · try simp only [Bool.or_eq_true, Bool.and_eq_true, Bool.or_eq_false_iff, Bool.and_eq_false_iff, Bool.not_eq_true', Bool.not_eq_false', decide_eq_true_eq, decide_eq_false_iff_not] at h18
            refine HT_seq <| (HT_run (by simp [*]; rfl) ?_)
            exact (HT_retE (fun h => ⟨.inr rfl, h⟩) _ (by simp [*]; rfl) (by first | rfl | (simp [*, kidsP]; done) | (simp only [resR, kidsP]; (repeat' split) <;> first | rfl | (exfalso; omega) | simp_all)) (by simp))
          · try simp only [Bool.or_eq_true, Bool.and_eq_true, Bool.or_eq_false_iff, Bool.and_eq_false_iff, Bool.not_eq_true', Bool.not_eq_false', decide_eq_true_eq, decide_eq_false_iff_not] at h18
            refine HT_seq <| (HT_run (by simp [*]; rfl) ?_)
            exact (HT_retE (fun h => ⟨.inr rfl, h⟩) _ (by simp [*]; rfl) (by first | rfl | (simp [*, kidsP]; done) | (simp only [resR, kidsP]; (repeat' split) <;> first | rfl | (exfalso; omega) | simp_all)) (by simp))

theorem overP_con (n : Int) (b : Bool) (d : Nat) : Con Tryz.prog 51 true [.one (.c (.ptr [iC n, bC b]))] (.v (lb (b || decide (1024 < n)))) none d := by
  refine con_of_HT Tryz.func51 rfl (by kernel_rfl) (Nat.le_of_ble_eq_true rfl) ?_
  simp only [Tryz.f51]
  refine HT_seq <| (HT_run (by simp [*]; rfl) ?_)
  refine HT_seq <| (HT_run (by simp [*]; rfl) ?_)
  exact (HT_retE (fun h => ⟨.inr rfl, h⟩) _ (by simp [*]; rfl) (by first | rfl | (simp [*]; done) | (simp only [resR]; (repeat' split) <;> first | rfl | (exfalso; omega) | simp_all)) (by simp))

/-! ## names -/
def chOk (s : ByteArray) (i : Nat) : Bool :=
  match s[i]? with
  | some b => (decide (97 ≤ (b.toNat : Int)) && decide ((b.toNat : Int) ≤ 122)) || (decide (i ≠ 0) && ((decide (48 ≤ (b.toNat : Int)) && decide ((b.toNat : Int) ≤ 57)) || decide ((b.toNat : Int) = 46) || decide ((b.toNat : Int) = 95)))
  | none => false
def nameB (s : ByteArray) : Bool := decide (1 ≤ s.size) && decide (s.size ≤ 40) && (List.range s.size).all (chOk s)
theorem get_bytes {s : ByteArray} {k : Nat} (h : k < s.size) : ∃ b, s[k]? = some b := ⟨s[k], by simp [h]⟩
theorem size_pos {s : ByteArray} : s = ⟨#[]⟩ ↔ s.size = 0 := by
  obtain ⟨a⟩ := s
  constructor
  · intro h; cases h; rfl
  · intro h
    have : a = #[] := Array.eq_empty_of_size_eq_zero h
    rw [this]
theorem nameB_bad {s : ByteArray} {k : Nat} (hk : k < s.size) (h : chOk s k = false) : nameB s = false := by
  unfold nameB
  rw [Bool.and_eq_false_iff]
  refine .inr ?_
  rw [List.all_eq_false]
  exact ⟨k, by simpa using hk, by simp [h]⟩
theorem nameB_good {s : ByteArray} (h1 : 1 ≤ s.size) (h2 : s.size ≤ 40) (h : ∀ j : Nat, j < s.size → chOk s j = true) : nameB s = true := by
  unfold nameB
  simp only [h1, h2, decide_true, Bool.true_and, List.all_eq_true, List.mem_range]
  exact h

theorem nameP_con (s : ByteArray) (d : Nat) : Con Tryz.prog 83 true [sv s] (.v (lb (nameB s))) none d := by
  refine con_of_HT Tryz.func83 rfl (by kernel_rfl) (Nat.le_of_ble_eq_true rfl) ?_
  simp only [Tryz.f83]
  refine HT_seq <| (HT_run (by simp [*]; rfl) ?_)
  refine HT_seq <| HT_seq <| (HT_run (by simp [*]; rfl) ?_)
  refine (HT_cond rfl (fun h2 => ?_) (fun h2 => HT_skip ?_))
  · try simp only [Bool.or_eq_true, Bool.and_eq_true, Bool.or_eq_false_iff, Bool.and_eq_false_iff, Bool.not_eq_true', Bool.not_eq_false', decide_eq_true_eq, decide_eq_false_iff_not] at h2
    have hz : nameB s = false := by
      unfold nameB
      simp only [size_pos] at h2
      rw [Bool.and_eq_false_iff, Bool.and_eq_false_iff]
      simp only [decide_eq_false_iff_not]
      omega
    refine HT_seq <| (HT_run (by simp [*]; rfl) ?_)
    exact (HT_retE (fun h => ⟨.inr rfl, h⟩) _ (by simp [*]; rfl) (by first | rfl | (simp [*]; done) | (simp only [resR]; (repeat' split) <;> first | rfl | (exfalso; omega) | simp_all)) (by simp))
  · try simp only [Bool.or_eq_true, Bool.and_eq_true, Bool.or_eq_false_iff, Bool.and_eq_false_iff, Bool.not_eq_true', Bool.not_eq_false', decide_eq_true_eq, decide_eq_false_iff_not] at h2
    simp only [size_pos] at h2
    have h1 : 1 ≤ s.size := by omega
    have h40 : s.size ≤ 40 := by omega
    refine HT_seq <| HT_seq <| (HT_run (by simp [*]; rfl) ?_)
    refine HT_block <| (HT_loopU [0, 14] (fun (x : Nat) => [(15, .v (li x))]) (fun (x : Nat) => []) (fun (x : Nat) => x ≤ s.size ∧ ∀ j : Nat, j < x → chOk s j = true) (fun (x : Nat) => s.size - x) (0 : Nat) ⟨Nat.zero_le _, fun j hj => absurd hj (Nat.not_lt_zero j)⟩ ?_ ?_)
    · exact le_mk (fun n => n) [] rfl (by simp [*, upS, keepS]) (by simp [*, upS]) (by simp [upS])
    rintro k ⟨hk, hall⟩
    simp only [upS, keepS, insS]
    try simp only [keepS, List.contains_cons, List.contains_nil, Bool.or_false, Bool.or_true, Bool.true_or, Bool.false_or, Nat.reduceBEq, BEq.rfl, beq_self_eq_true, if_true, if_false, Bool.false_eq_true, ite_true, ite_false, ins, Nat.reduceLT]
    refine HT_seq <| (HT_run (by simp [*]; rfl) ?_)
    refine HT_seq <| (HT_cond rfl (fun h8 => HT_skip ?_) (fun h8 => ?_))
    · try simp only [Bool.or_eq_true, Bool.and_eq_true, Bool.or_eq_false_iff, Bool.and_eq_false_iff, Bool.not_eq_true', Bool.not_eq_false', decide_eq_true_eq, decide_eq_false_iff_not] at h8
      have hlt : k < s.size := by omega
      obtain ⟨b, hb⟩ := get_bytes hlt
      have hw := wrap1 hlt (by omega)
      have hk1 : k + 1 ≤ s.size := hlt
      clear hlt h8
      refine HT_seq <| HT_block <| HT_seq <| (HT_run (by simp [*]; rfl) ?_)
      refine HT_seq <| (HT_run (by simp [*]; rfl) ?_)
      refine HT_seq <| (HT_run (by simp [*]; rfl) ?_)
      refine HT_seq <| (HT_run (by simp [*]; rfl) ?_)
      refine (HT_cond rfl (fun h13 => ?_) (fun h13 => HT_skip ?_))
      · try simp only [Bool.or_eq_true, Bool.and_eq_true, Bool.or_eq_false_iff, Bool.and_eq_false_iff, Bool.not_eq_true', Bool.not_eq_false', decide_eq_true_eq, decide_eq_false_iff_not] at h13
        have hbad : chOk s k = false := by
          unfold chOk
          rw [hb]
          simp only [Bool.or_eq_false_iff, Bool.and_eq_false_iff, decide_eq_false_iff_not]
          omega
        have hz := nameB_bad hk1 hbad
        refine HT_seq <| (HT_run (by simp [*]; rfl) ?_)
        exact (HT_retE (fun h => ⟨.inr rfl, h⟩) _ (by simp [*]; rfl) (by first | rfl | (simp [*]; done) | (simp only [resR]; (repeat' split) <;> first | rfl | (exfalso; omega) | simp_all)) (by simp))
      · try simp only [Bool.or_eq_true, Bool.and_eq_true, Bool.or_eq_false_iff, Bool.and_eq_false_iff, Bool.not_eq_true', Bool.not_eq_false', decide_eq_true_eq, decide_eq_false_iff_not] at h13
        have hgood : chOk s k = true := by
          unfold chOk
          rw [hb]
          simp only [Bool.or_eq_true, Bool.and_eq_true, decide_eq_true_eq]
          omega
        refine (HT_run (by simp [*]; rfl) ?_)
        exact ⟨k + 1, ⟨by omega, fun j hj => (Nat.lt_succ_iff_lt_or_eq.1 hj).elim (hall j) (fun e => e ▸ hgood)⟩, by omega, le_mk (fun n => n) [] rfl (by simp [upS, keepS, *]) (by simp [*, upS]) (by simp [upS])⟩
    · try simp only [Bool.or_eq_true, Bool.and_eq_true, Bool.or_eq_false_iff, Bool.and_eq_false_iff, Bool.not_eq_true', Bool.not_eq_false', decide_eq_true_eq, decide_eq_false_iff_not] at h8
      have hz := nameB_good h1 h40 (fun j hj => hall j (by omega))
      refine (HT_exit ?_)
      refine HT_seq <| (HT_run (by simp [*]; rfl) ?_)
      exact (HT_retE (fun h => ⟨.inr rfl, h⟩) _ (by simp [*]; rfl) (by first | rfl | (simp [*]; done) | (simp only [resR]; (repeat' split) <;> first | rfl | (exfalso; omega) | simp_all)) (by simp))
end Go.Proofs.YtfilidjbpomgoaaGreat

namespace Go.Proofs.YtfilidjbpomgoaaGreat
open Go Go.Hl

/-! ## sizes -/
mutual
def Tm.nodes : Tm → Nat
  | .mk _ _ ks => 1 + nodesT ks
def nodesT : List Tm → Nat
  | [] => 0
  | t :: l => t.nodes + nodesT l
end
mutual
def St.nodes : St → Nat
  | .mk _ _ _ _ t a b bs => 1 + t.nodes + nodesS a + nodesS b
def nodesS : List St → Nat
  | [] => 0
  | s :: l => s.nodes + nodesS l
end
theorem nodes_pos (t : Tm) : 1 ≤ t.nodes := by cases t; simp [Tm.nodes]
theorem nodesS_pos (t : St) : 1 ≤ t.nodes := by cases t; simp [St.nodes]; omega
theorem len_nodesT : ∀ l : List Tm, l.length ≤ nodesT l
  | [] => by simp [nodesT]
  | t :: l => by have := len_nodesT l; have := nodes_pos t; simp only [nodesT, List.length_cons]; omega
theorem len_nodesS : ∀ l : List St, l.length ≤ nodesS l
  | [] => by simp [nodesS]
  | t :: l => by have := len_nodesS l; have := nodesS_pos t; simp only [nodesS, List.length_cons]; omega

/-! ## the measure -/
mutual
def mTm : Tm → Int → Int × Bool → Int × Bool
  | .mk _ _ ks, dep, s => if ((s.2 || decide (12 < dep)) || decide (1024 < s.1 + 1)) = true then (s.1 + 1, s.2 || decide (12 < dep)) else mTms ks (dep + 1) (s.1 + 1, s.2 || decide (12 < dep))
def mTms : List Tm → Int → Int × Bool → Int × Bool
  | [], _, s => s
  | t :: l, dep, s => mTms l dep (mTm t dep s)
end
mutual
theorem mTm_le : ∀ (t : Tm) (dep : Int) (s : Int × Bool), s.1 ≤ (mTm t dep s).1 ∧ (mTm t dep s).1 ≤ s.1 + t.nodes
  | .mk o n ks, dep, s => by
    have := mTms_le ks (dep + 1) (s.1 + 1, s.2 || decide (12 < dep))
    simp only [mTm, Tm.nodes]
    split
    · simp only; omega
    · simp only at this; omega
theorem mTms_le : ∀ (l : List Tm) (dep : Int) (s : Int × Bool), s.1 ≤ (mTms l dep s).1 ∧ (mTms l dep s).1 ≤ s.1 + nodesT l
  | [], dep, s => by simp [mTms, nodesT]
  | t :: l, dep, s => by
    have h1 := mTm_le t dep s
    have h2 := mTms_le l dep (mTm t dep s)
    simp only [mTms, nodesT]
    omega
end

theorem mterm_con (t : Tm) : ∀ (dep c : Int) (b : Bool), 0 ≤ dep → 0 ≤ c → c + t.nodes ≤ 1000000000 →
    ConIO Tryz.prog 52 [iC c, bC b] [aT t, li dep] (.tup []) [iC (mTm t dep (c, b)).1, bC (mTm t dep (c, b)).2] := by
  induction t using Tm.ind with
  | h o n ks ih =>
  intro dep c b hdep hc hn
  simp only [Tm.nodes] at hn
  obtain ⟨res, hres⟩ : ∃ r, mTm (.mk o n ks) dep (c, b) = r := ⟨_, rfl⟩
  rw [hres]
  simp only [mTm] at hres
  have hlen := len_nodesT ks
  have hw : IntKind.i64.wrap (c + 1) = c + 1 := wrap_in (by omega) (by omega)
  refine con_io_of_HT Tryz.func52 rfl (by kernel_rfl) (Nat.le_of_ble_eq_true rfl) ?_
  simp only [Tryz.f52, aT, Tm.enc]
  refine HT_seq <| (HT_run (by simp [*]; rfl) ?_)
  refine HT_seq <| (HT_run (by simp [*]; rfl) ?_)
  refine HT_seq <| (HT_run (by simp [*]; rfl) ?_)
  refine HT_seq <| HT_seq <| (HT_runc [⟨true, .v (lb ((b || decide (12 < dep)) || decide (1024 < c + 1))), none⟩] (by simp [*]; first | exact ⟨rfl, Iff.rfl⟩ | exact ⟨rfl, trivial⟩ | rfl) ?_ ?_)
  · first | exact overP_con _ _ _ | exact trivial | simpa [*] using overP_con _ _ _
  refine (HT_cond rfl (fun h4 => ?_) (fun h4 => HT_skip ?_))
  · try simp only [Bool.or_eq_true, Bool.and_eq_true, Bool.or_eq_false_iff, Bool.and_eq_false_iff, Bool.not_eq_true', Bool.not_eq_false', decide_eq_true_eq, decide_eq_false_iff_not] at h4
    rw [if_pos (by simpa using h4)] at hres
    subst hres
    exact HT_ret (⟨.inr rfl, _, le_refl _, ⟨_, by simp [*]; rfl, by simp [resR]⟩, by simp [*]⟩)
  · try simp only [Bool.or_eq_true, Bool.and_eq_true, Bool.or_eq_false_iff, Bool.and_eq_false_iff, Bool.not_eq_true', Bool.not_eq_false', decide_eq_true_eq, decide_eq_false_iff_not] at h4
    rw [if_neg (by simpa using h4)] at hres
    have hdep2 : dep ≤ 12 := by omega
    have hwd : IntKind.i64.wrap (dep + 1) = dep + 1 := wrap_in (by omega) (by omega)
    refine HT_seq <| (HT_run (by simp [*]; rfl) ?_)
    refine HT_block <| (HT_loopU [0, 2, 29, 30] (fun (x : Nat × Int × Bool) => [(31, .v (li x.1))]) (fun (x : Nat × Int × Bool) => [(1000000, .box [.c (iC x.2.1), .c (bC x.2.2)])]) (fun (x : Nat × Int × Bool) => x.1 ≤ ks.length ∧ mTms (ks.drop x.1) (dep + 1) x.2 = res ∧ 0 ≤ x.2.1 ∧ x.2.1 + nodesT (ks.drop x.1) ≤ 1000000000) (fun (x : Nat × Int × Bool) => ks.length - x.1) (0, c + 1, b || decide (12 < dep)) ⟨Nat.zero_le _, hres, by simp only; omega, by simp only [List.drop_zero]; omega⟩ ?_ ?_)
    · exact le_mk (fun n => n) [] rfl (by simp [*, upS, keepS]) (by simp [*, upS]) (by simp [upS])
    rintro ⟨k, m, q⟩ ⟨hk, hJ, hm, hb⟩
    simp only [upS, keepS, insS]
    try simp only [keepS, List.contains_cons, List.contains_nil, Bool.or_false, Bool.or_true, Bool.true_or, Bool.false_or, Nat.reduceBEq, BEq.rfl, beq_self_eq_true, if_true, if_false, Bool.false_eq_true, ite_true, ite_false, ins, Nat.reduceLT]
    simp only at hk hJ hm hb
    refine HT_seq <| (HT_run (by simp [*]; rfl) ?_)
    refine HT_seq <| (HT_cond rfl (fun h9 => HT_skip ?_) (fun h9 => ?_))
    · try simp only [Bool.or_eq_true, Bool.and_eq_true, Bool.or_eq_false_iff, Bool.and_eq_false_iff, Bool.not_eq_true', Bool.not_eq_false', decide_eq_true_eq, decide_eq_false_iff_not] at h9
      have hlt : k < ks.length := by omega
      obtain ⟨⟨eo, en, ek⟩, he, hd⟩ := at_lt hlt
      have he' := get_encT he
      simp only [Tm.enc] at he'
      have hw1 := wrap1 hlt (by omega)
      rw [hd] at hJ hb
      simp only [mTms, nodesT] at hJ hb
      have hk1 : k + 1 ≤ ks.length := hlt
      have hmem : Tm.mk eo en ek ∈ ks := List.mem_of_getElem? he
      have hle := mTm_le (.mk eo en ek) (dep + 1) (m, q)
      clear hlt h9
      refine HT_seq <| HT_block <| HT_seq <| (HT_run (by simp [*]; rfl) ?_)
      refine (HT_runIO 4 (.tup []) ([iC (mTm (.mk eo en ek) (dep + 1) (m, q)).1, bC (mTm (.mk eo en ek) (dep + 1) (m, q)).2]) rfl (by simp [*]; rfl) (by simp [ioOf, *]; first | exact ⟨rfl, rfl, rfl, rfl, rfl⟩ | exact ⟨rfl, rfl, rfl, rfl⟩ | exact ⟨rfl, rfl, rfl⟩ | exact ⟨rfl, rfl⟩ | rfl) (ih _ hmem (dep + 1) m q (by omega) hm (by omega)) (by simp) (by simp [*]; rfl) ?_)
      refine (HT_run (by simp [*]; rfl) ?_)
      exact ⟨(k + 1, mTm (.mk eo en ek) (dep + 1) (m, q)), ⟨hk1, hJ, by simp only at hle ⊢; omega, by simp only at hle ⊢; omega⟩, by simp only; omega, le_mk (fun n => n) [] rfl (by simp [upS, keepS, *]) (by simp [*, upS]) (by simp [upS])⟩
    · try simp only [Bool.or_eq_true, Bool.and_eq_true, Bool.or_eq_false_iff, Bool.and_eq_false_iff, Bool.not_eq_true', Bool.not_eq_false', decide_eq_true_eq, decide_eq_false_iff_not] at h9
      have hkl : k = ks.length := by omega
      subst hkl
      rw [List.drop_length] at hJ
      simp only [mTms] at hJ
      subst hJ
      refine (HT_exit ?_)
      exact (⟨.inl rfl, _, le_refl _, ⟨_, by simp [*]; rfl, by simp [resR]⟩, by simp [*]⟩)
end Go.Proofs.YtfilidjbpomgoaaGreat

namespace Go.Proofs.YtfilidjbpomgoaaGreat
open Go Go.Hl

/-! ## ranges -/
def encPs (k : List (Int × Int)) : List (List CD) := k.map fun p => [iC p.1, iC p.2]
@[simp] theorem len_encP (k : List (Int × Int)) : (encPs k).length = k.length := by simp [encPs]
@[simp] theorem get_encP (k : List (Int × Int)) (i : Nat) : (encPs k)[i]? = k[i]?.map fun p => [iC p.1, iC p.2] := by simp [encPs]
@[simp] theorem encP_nil : encPs [] = [] := rfl
theorem drop_encP (k : List (Int × Int)) (i : Nat) : (encPs k).drop i = encPs (k.drop i) := by simp [encPs]
abbrev aP (p : Int × Int) : TV := .agg [.c (iC p.1), .c (iC p.2)]
def mn (a b : Int) : Int := if b < a then b else a
def mx (a b : Int) : Int := if a < b then b else a
def hullP (p q : Int × Int) : Int × Int := (mn p.1 q.1, mx p.2 q.2)
def hullL : List (Int × Int) → Int × Int → Int × Int
  | [], p => p
  | q :: l, p => hullL l (hullP p q)
def mulP (a b : Int × Int) : Int × Int := hullP (hullP (hullP (a.1 * b.1, a.1 * b.1) (a.1 * b.2, a.1 * b.2)) (a.2 * b.1, a.2 * b.1)) (a.2 * b.2, a.2 * b.2)
def bnd (p : Int × Int) : Prop := -1048576 ≤ p.1 ∧ p.1 ≤ p.2 ∧ p.2 ≤ 1048576

theorem hull_con (p q : Int × Int) (d : Nat) : Con Tryz.prog 128 true [aP p, aP q] (.v (aP (hullP p q))) none d := by
  refine con_of_HT Tryz.func128 rfl (by kernel_rfl) (Nat.le_of_ble_eq_true rfl) ?_
  simp only [Tryz.f128]
  refine HT_seq <| (HT_run (by simp [*]; rfl) ?_)
  refine HT_seq <| (HT_run (by simp [*]; rfl) ?_)
  exact (HT_retE (fun h => ⟨.inr rfl, h⟩) _ (by simp [*]; rfl) (by simp [resR, hullP, mn, mx]) (by simp))
theorem mul_le {x y : Int} (hx : -1048576 ≤ x ∧ x ≤ 1048576) (hy : -1048576 ≤ y ∧ y ≤ 1048576) : -1099511627776 ≤ x * y ∧ x * y ≤ 1099511627776 := by
  have h1 : x.natAbs ≤ 1048576 := by omega
  have h2 : y.natAbs ≤ 1048576 := by omega
  have h3 := Nat.mul_le_mul h1 h2
  rw [← Int.natAbs_mul] at h3
  omega
theorem mul_con (x y : Int) (hx : -1048576 ≤ x ∧ x ≤ 1048576) (hy : -1048576 ≤ y ∧ y ≤ 1048576) (d : Nat) : Con Tryz.prog 127 true [li x, li y] (.v (li (x * y))) none d := by
  have hm := mul_le hx hy
  have hw : IntKind.i64.wrap (x * y) = x * y := wrap_in (by omega) (by omega)
  refine con_of_HT Tryz.func127 rfl (by kernel_rfl) (Nat.le_of_ble_eq_true rfl) ?_
  simp only [Tryz.f127]
  refine HT_seq <| (HT_run (by simp [*]; rfl) ?_)
  refine HT_seq <| (HT_run (by simp [*]; rfl) ?_)
  exact (HT_retE (fun h => ⟨.inr rfl, h⟩) _ (by simp [*]; rfl) (by first | rfl | (simp [*]; done) | (simp only [resR]; (repeat' split) <;> first | rfl | (exfalso; omega) | simp_all)) (by simp))
def hullI : List Int → Int × Int → Int × Int
  | [], p => p
  | q :: l, p => hullI l (hullP p (q, q))

theorem corners_con (a b : Int × Int) (ha : bnd a) (hb : bnd b) (d : Nat) : Con Tryz.prog 126 true [aP a, aP b, .one (.fn 127 [])] (.v (aP (mulP a b))) none d := by
  obtain ⟨a1, a2⟩ := a
  obtain ⟨b1, b2⟩ := b
  simp only [bnd] at ha hb
  refine con_of_HT Tryz.func126 rfl (by kernel_rfl) (Nat.le_of_ble_eq_true rfl) ?_
  simp only [Tryz.f126]
  obtain ⟨L, hL⟩ : ∃ L, L = [a1 * b2, a2 * b1, a2 * b2] := ⟨_, rfl⟩
  have hlen : L.length = 3 := by rw [hL]; rfl
  obtain ⟨res, hres⟩ : ∃ res, mulP (a1, a2) (b1, b2) = res := ⟨_, rfl⟩
  rw [hres]
  have hres2 : hullI L (a1 * b1, a1 * b1) = res := by rw [← hres, hL]; rfl
  clear hres
  refine HT_seq <| (HT_run (by simp [*]; rfl) ?_)
  refine HT_seq <| (HT_runc [⟨true, .v (li (a1 * b1)), none⟩] (by simp [*]; first | exact ⟨rfl, Iff.rfl⟩ | exact ⟨rfl, trivial⟩ | rfl) ?_ ?_)
  · first | exact mul_con _ _ (by omega) (by omega) _ | exact trivial | simpa [*] using mul_con _ _ (by omega) (by omega) _
  refine HT_seq <| (HT_run (by simp [*]; rfl) ?_)
  refine HT_seq <| HT_seq <| (HT_drunc [⟨true, .v (li (a1 * b2)), none⟩, ⟨true, .v (li (a2 * b1)), none⟩, ⟨true, .v (li (a2 * b2)), none⟩] (by kernel_rfl) (by kernel_rfl) (by rfl) (by simp [*]; first | exact ⟨rfl, Iff.rfl⟩ | exact ⟨rfl, trivial⟩ | rfl) ?_ ?_)
  · first | exact trivial | exact trivial | (repeat' first | exact trivial | exact mul_con _ _ (by omega) (by omega) _ | exact mul_con _ _ (by omega) (by omega) _ | exact mul_con _ _ (by omega) (by omega) _ | apply And.intro)
  refine HT_block <| (HT_loopU [6, 8, 38, 39] (fun (x : Nat × Int × Int) => [(40, .v (li x.1))]) (fun (x : Nat × Int × Int) => [(6, .box [.c (iC 0), .c (iC 0)]), (8, .box [.c (iC x.2.1), .c (iC x.2.2)]), (38, .row 3 1 (encIs L))]) (fun (x : Nat × Int × Int) => x.1 ≤ 3 ∧ hullI (L.drop x.1) x.2 = res) (fun (x : Nat × Int × Int) => 3 - x.1) (0, a1 * b1, a1 * b1) ⟨Nat.zero_le _, hres2⟩ ?_ ?_)
  · exact le_mk (fun n => n) [] rfl (by simp [*, upS, keepS]) (by simp [upS, encIs, hL]) (by simp [upS])
  rintro ⟨k, m, q⟩ ⟨hk, hJ⟩
  simp only [upS, keepS, insS]
  try simp only [keepS, List.contains_cons, List.contains_nil, Bool.or_false, Bool.or_true, Bool.true_or, Bool.false_or, Nat.reduceBEq, BEq.rfl, beq_self_eq_true, if_true, if_false, Bool.false_eq_true, ite_true, ite_false, ins, Nat.reduceLT]
  simp only at hk hJ
  clear hres2 hL
  refine HT_seq <| (HT_run (by simp [*]; rfl) ?_)
  refine HT_seq <| (HT_cond rfl (fun h6 => HT_skip ?_) (fun h6 => ?_))
  · try simp only [Bool.or_eq_true, Bool.and_eq_true, Bool.or_eq_false_iff, Bool.and_eq_false_iff, Bool.not_eq_true', Bool.not_eq_false', decide_eq_true_eq, decide_eq_false_iff_not] at h6
    have hlt : k < L.length := by omega
    obtain ⟨e, he, hd⟩ := at_lt hlt
    have hw1 := wrap1 hlt (by omega)
    rw [hd] at hJ
    simp only [hullI] at hJ
    have hk1 : k + 1 ≤ 3 := by omega
    clear hlt h6
    refine HT_seq <| HT_block <| HT_seq <| (HT_run (by simp [*]; rfl) ?_)
    refine (HT_runc [⟨true, .v (aP (hullP (m, q) (e, e))), none⟩] (by simp [*]; first | exact ⟨rfl, Iff.rfl⟩ | exact ⟨rfl, trivial⟩ | rfl) ?_ ?_)
    · first | exact hull_con (m, q) (e, e) _ | exact trivial | simpa [*] using hull_con (m, q) (e, e) _
    refine (HT_run (by simp [*]; rfl) ?_)
    exact ⟨(k + 1, hullP (m, q) (e, e)), ⟨hk1, hJ⟩, by simp only; omega, le_mk (fun n => n) [] rfl (by simp [upS, keepS, *]) (by simp [*, upS]) (by simp [upS])⟩
  · try simp only [Bool.or_eq_true, Bool.and_eq_true, Bool.or_eq_false_iff, Bool.and_eq_false_iff, Bool.not_eq_true', Bool.not_eq_false', decide_eq_true_eq, decide_eq_false_iff_not] at h6
    have hkl : k = L.length := by omega
    rw [hkl, List.drop_length] at hJ
    simp only [hullI] at hJ
    refine (HT_exit ?_)
    refine HT_seq <| (HT_run (by simp [*]; rfl) ?_)
    exact (HT_retE (fun h => ⟨.inr rfl, h⟩) _ (by simp [*]; rfl) (by subst hJ; rfl) (by simp))
end Go.Proofs.YtfilidjbpomgoaaGreat
