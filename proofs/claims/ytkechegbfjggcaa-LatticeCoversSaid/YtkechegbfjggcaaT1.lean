/- T1: contracts of functions of the package, used by the proof of the claimed statement. Conditions: as each theorem states. -/
import Derived.Test.YtkechegbfjggcaaProg
import Derived.Test.YtkechegbfjggcaaHlW
import Derived.KernelRfl
import Derived.IntWalk
set_option linter.unusedSimpArgs false
set_option linter.unusedVariables false
namespace Go.Proofs.Ytkechegbfjggcaa
open Go Go.Hl

@[simp] theorem ty3 : tyOf Try.prog 3 = some ⟨1, 8, false, [.int .i64 0], .other⟩ := by kernel_rfl
@[simp] theorem ty4 : tyOf Try.prog 4 = some ⟨1, 1, false, [.bool false], .other⟩ := by kernel_rfl
@[simp] theorem ty9 : tyOf Try.prog 9 = some ⟨1, 16, false, [.string ⟨#[]⟩], .other⟩ := by kernel_rfl
@[simp] theorem ty22 : tyOf Try.prog 22 = some ⟨1, 24, false, [.slice none 0 0], .slice 9⟩ := by kernel_rfl
@[simp] theorem ty23 : tyOf Try.prog 23 = some ⟨1, 24, false, [.slice none 0 0], .slice 24⟩ := by kernel_rfl
@[simp] theorem ty24 : tyOf Try.prog 24 = some ⟨2, 16, true, [.int .i64 0, .int .i64 0], .array 2 3⟩ := by kernel_rfl
@[simp] theorem ty26 : tyOf Try.prog 26 = some ⟨1, 8, false, [.pointer none], .other⟩ := by kernel_rfl
@[simp] theorem ty27 : tyOf Try.prog 27 = some ⟨1, 24, false, [.slice none 0 0], .slice 34⟩ := by kernel_rfl
@[simp] theorem ty29 : tyOf Try.prog 29 = some ⟨2, 48, true, [.slice none 0 0, .slice none 0 0], .struct [(0, 22), (1, 27)]⟩ := by kernel_rfl
@[simp] theorem ty34 : tyOf Try.prog 34 = some ⟨1, 24, false, [.slice none 0 0], .slice 4⟩ := by kernel_rfl
@[simp] theorem ty36 : tyOf Try.prog 36 = some ⟨1, 8, false, [.int .i64 0], .other⟩ := by kernel_rfl
@[simp] theorem ty40 : tyOf Try.prog 40 = some ⟨3, 24, true, [.int .i64 0, .int .i64 0, .int .i64 0], .array 3 3⟩ := by kernel_rfl
@[simp] theorem ty54 : tyOf Try.prog 54 = some ⟨1, 24, false, [.slice none 0 0], .slice 3⟩ := by kernel_rfl
@[simp] theorem ty62 : tyOf Try.prog 62 = some ⟨1, 8, false, [.map none], .other⟩ := by kernel_rfl
@[simp] theorem ty63 : tyOf Try.prog 63 = some ⟨1, 24, false, [.slice none 0 0], .slice 54⟩ := by kernel_rfl
@[simp] theorem ty65 : tyOf Try.prog 65 = some ⟨5, 104, true, [.slice none 0 0, .map none, .slice none 0 0, .slice none 0 0, .slice none 0 0], .struct [(0, 22), (1, 62), (2, 27), (3, 63), (4, 63)]⟩ := by kernel_rfl
@[simp] theorem mt62 : mapT Try.prog 62 = some (.string, .int .i64 0) := by kernel_rfl
@[simp] theorem bt4 : boolT Try.prog 4 = true := by kernel_rfl
@[simp] theorem st9 : strT Try.prog 9 = true := by kernel_rfl
@[simp] theorem pt26 : ptrT Try.prog 26 = true := by kernel_rfl

def i64 (n : Int) : CD := .lit (.int .i64 n)
def bC (b : Bool) : CD := .lit (.bool b)
def sC (s : ByteArray) : CD := .lit (.string s)
def li (n : Int) : TV := .one (.c (i64 n))
def lb (b : Bool) : TV := .one (.c (bC b))
def nsC (names : List ByteArray) : CD := .sl 1 (names.map fun s => [sC s])
def rowB (n : Nat) (M : Nat → Nat → Bool) (a : Nat) : List (List CD) := (List.range n).map fun b => [bC (M a b)]
def matB (n : Nat) (M : Nat → Nat → Bool) : CD := .sl 1 ((List.range n).map fun a => [.sl 1 (rowB n M a)])
def rowI (n : Nat) (J : Nat → Nat → Int) (a : Nat) : List (List CD) := (List.range n).map fun b => [i64 (J a b)]
def matI (n : Nat) (J : Nat → Nat → Int) : CD := .sl 1 ((List.range n).map fun a => [.sl 1 (rowI n J a)])
def idxL (names : List ByteArray) : List (Value × CD) := names.zipIdx.map fun p => (.string p.1, i64 p.2)
/-- a lattice's block: names, index, below, join, meet -/
def latD (names : List ByteArray) (ix bl jn mt : CD) : CD := .ptr [nsC names, ix, bl, jn, mt]

theorem wrap_in {n : Int} (h1 : -9223372036854775808 ≤ n) (h2 : n ≤ 9223372036854775807) : IntKind.i64.wrap n = n := IntWalk.i64_in n ⟨h1, h2⟩

def inB (n : Nat) (a : Int) : Bool := decide (0 ≤ a) && decide (a < n)

set_option maxRecDepth 100000 in
theorem has_con (names : List ByteArray) (ix bl jn mt : CD) (a : Int) (d : Nat) : Con Try.prog 35 true [.one (.c (latD names ix bl jn mt)), li a] (.v (lb (inB names.length a))) none d := by
  refine con_of_HT Try.func35 rfl (by kernel_rfl) (Nat.le_of_ble_eq_true rfl) ?_
  simp only [Try.f35]
  refine HT_seq (HT_run (by simp [evs, evc, evcS, okCall, brw, brwL, brwT, brwA, frzC, frzL, frzP, matC, calleeOf, RV.ownB, CV.ownB, RV.onlyB, TV.onlyB, CV.onlyB, HS.made, impB_self, impB_true, impB_false, impB_one, impB_and, impB_and2, impB_imp, pickB_or, pickB_and, pickB_true, pickB_false, wpR, gdOf, clsOf, stpF, stpG, strip, gdR, ungd_true, litG_ungd, litG_lit, litG_gd, litG_any, litG_sl, litG_ptr, litG_own, litG_at, litG_agg, evOp, evN, evA, evR, evW, evBin, evUn, evStr, evNil, evAgg, intsL, ptrish, nilPtr, capsOf, ownOf, matApp, mapOf, mapRes, cellsOf, opd, lkp, ins, del, HS.put, okDst, unmB, sortB, RV.menB, TV.menB, CV.menB, Ob.menB, CV.cell, CD.cell, Value.oneCell', thenQ, blockQ, loopQ, constRV, fieldOf, elemTy, idxArr, arrOf, partOf, litOf, Hl.lit, rowsOf, dataOf, baseOf, moreOf, setRow, regsOf, latD, nsC, li, i64]; rfl) ?_)
  refine HT_seq (HT_run (by simp [evs, evc, evcS, okCall, brw, brwL, brwT, brwA, frzC, frzL, frzP, matC, calleeOf, RV.ownB, CV.ownB, RV.onlyB, TV.onlyB, CV.onlyB, HS.made, impB_self, impB_true, impB_false, impB_one, impB_and, impB_and2, impB_imp, pickB_or, pickB_and, pickB_true, pickB_false, wpR, gdOf, clsOf, stpF, stpG, strip, gdR, ungd_true, litG_ungd, litG_lit, litG_gd, litG_any, litG_sl, litG_ptr, litG_own, litG_at, litG_agg, evOp, evN, evA, evR, evW, evBin, evUn, evStr, evNil, evAgg, intsL, ptrish, nilPtr, capsOf, ownOf, matApp, mapOf, mapRes, cellsOf, opd, lkp, ins, del, HS.put, okDst, unmB, sortB, RV.menB, TV.menB, CV.menB, Ob.menB, CV.cell, CD.cell, Value.oneCell', thenQ, blockQ, loopQ, constRV, fieldOf, elemTy, idxArr, arrOf, partOf, litOf, Hl.lit, rowsOf, dataOf, baseOf, moreOf, setRow]; rfl) ?_)
  exact HT_ret ⟨.inr rfl, _, le_refl _, ⟨_, rfl, by simp [evs, evc, evcS, okCall, brw, brwL, brwT, brwA, frzC, frzL, frzP, matC, calleeOf, RV.ownB, CV.ownB, RV.onlyB, TV.onlyB, CV.onlyB, HS.made, impB_self, impB_true, impB_false, impB_one, impB_and, impB_and2, impB_imp, pickB_or, pickB_and, pickB_true, pickB_false, wpR, gdOf, clsOf, stpF, stpG, strip, gdR, ungd_true, litG_ungd, litG_lit, litG_gd, litG_any, litG_sl, litG_ptr, litG_own, litG_at, litG_agg, evOp, evN, evA, evR, evW, evBin, evUn, evStr, evNil, evAgg, intsL, ptrish, nilPtr, capsOf, ownOf, matApp, mapOf, mapRes, cellsOf, opd, lkp, ins, del, HS.put, okDst, unmB, sortB, RV.menB, TV.menB, CV.menB, Ob.menB, CV.cell, CD.cell, Value.oneCell', thenQ, blockQ, loopQ, constRV, fieldOf, elemTy, idxArr, arrOf, partOf, litOf, Hl.lit, rowsOf, dataOf, baseOf, moreOf, setRow, resR, lb, bC, inB]⟩, by simp, fun _ => ⟨rfl, by simp⟩⟩

/-! ## the closures -/
theorem rowB_get {n : Nat} {M : Nat → Nat → Bool} {a b : Nat} (h : b < n) : (rowB n M a)[b]? = some [bC (M a b)] := by simp [rowB, h]
theorem rowB_len (n : Nat) (M : Nat → Nat → Bool) (a : Nat) : (rowB n M a).length = n := by simp [rowB]

set_option maxRecDepth 100000 in
theorem upper_con (names : List ByteArray) (n : Nat) (M : Nat → Nat → Bool) (ix jn mt : CD) (a b : Nat) (ha : a < n) (hb : b < n) (d : Nat) :
    Con Try.prog 44 true [li a, li b, .one (.c (.ptr [latD names ix (matB n M) jn mt]))] (.v (lb (M a b))) none d := by
  refine con_of_HT Try.func44 rfl (by kernel_rfl) (Nat.le_of_ble_eq_true rfl) ?_
  simp only [Try.f44]
  refine HT_seq (HT_run (by simp [evs, evc, evcS, okCall, brw, brwL, brwT, brwA, frzC, frzL, frzP, matC, calleeOf, RV.ownB, CV.ownB, RV.onlyB, TV.onlyB, CV.onlyB, HS.made, impB_self, impB_true, impB_false, impB_one, impB_and, impB_and2, impB_imp, pickB_or, pickB_and, pickB_true, pickB_false, wpR, gdOf, clsOf, stpF, stpG, strip, gdR, ungd_true, litG_ungd, litG_lit, litG_gd, litG_any, litG_sl, litG_ptr, litG_own, litG_at, litG_agg, evOp, evN, evA, evR, evW, evBin, evUn, evStr, evNil, evAgg, intsL, ptrish, nilPtr, capsOf, ownOf, matApp, mapOf, mapRes, cellsOf, opd, lkp, ins, del, HS.put, okDst, unmB, sortB, RV.menB, TV.menB, CV.menB, Ob.menB, CV.cell, CD.cell, Value.oneCell', thenQ, blockQ, loopQ, constRV, fieldOf, elemTy, idxArr, arrOf, partOf, litOf, Hl.lit, rowsOf, dataOf, baseOf, moreOf, setRow, regsOf, latD, nsC, li, i64]; rfl) ?_)
  refine HT_seq (HT_run (by simp [evs, evc, evcS, okCall, brw, brwL, brwT, brwA, frzC, frzL, frzP, matC, calleeOf, RV.ownB, CV.ownB, RV.onlyB, TV.onlyB, CV.onlyB, HS.made, impB_self, impB_true, impB_false, impB_one, impB_and, impB_and2, impB_imp, pickB_or, pickB_and, pickB_true, pickB_false, wpR, gdOf, clsOf, stpF, stpG, strip, gdR, ungd_true, litG_ungd, litG_lit, litG_gd, litG_any, litG_sl, litG_ptr, litG_own, litG_at, litG_agg, evOp, evN, evA, evR, evW, evBin, evUn, evStr, evNil, evAgg, intsL, ptrish, nilPtr, capsOf, ownOf, matApp, mapOf, mapRes, cellsOf, opd, lkp, ins, del, HS.put, okDst, unmB, sortB, RV.menB, TV.menB, CV.menB, Ob.menB, CV.cell, CD.cell, Value.oneCell', thenQ, blockQ, loopQ, constRV, fieldOf, elemTy, idxArr, arrOf, partOf, litOf, Hl.lit, rowsOf, dataOf, baseOf, moreOf, setRow, matB, ha, rowB_get hb, bC]; rfl) ?_)
  exact HT_ret ⟨.inr rfl, _, le_refl _, ⟨_, rfl, by simp [evs, evc, evcS, okCall, brw, brwL, brwT, brwA, frzC, frzL, frzP, matC, calleeOf, RV.ownB, CV.ownB, RV.onlyB, TV.onlyB, CV.onlyB, HS.made, impB_self, impB_true, impB_false, impB_one, impB_and, impB_and2, impB_imp, pickB_or, pickB_and, pickB_true, pickB_false, wpR, gdOf, clsOf, stpF, stpG, strip, gdR, ungd_true, litG_ungd, litG_lit, litG_gd, litG_any, litG_sl, litG_ptr, litG_own, litG_at, litG_agg, evOp, evN, evA, evR, evW, evBin, evUn, evStr, evNil, evAgg, intsL, ptrish, nilPtr, capsOf, ownOf, matApp, mapOf, mapRes, cellsOf, opd, lkp, ins, del, HS.put, okDst, unmB, sortB, RV.menB, TV.menB, CV.menB, Ob.menB, CV.cell, CD.cell, Value.oneCell', thenQ, blockQ, loopQ, constRV, fieldOf, elemTy, idxArr, arrOf, partOf, litOf, Hl.lit, rowsOf, dataOf, baseOf, moreOf, setRow, resR, lb, bC]⟩, by simp, fun _ => ⟨rfl, by simp⟩⟩
set_option maxRecDepth 100000 in
theorem lower_con (names : List ByteArray) (n : Nat) (M : Nat → Nat → Bool) (ix jn mt : CD) (a b : Nat) (ha : a < n) (hb : b < n) (d : Nat) :
    Con Try.prog 45 true [li a, li b, .one (.c (.ptr [latD names ix (matB n M) jn mt]))] (.v (lb (M b a))) none d := by
  refine con_of_HT Try.func45 rfl (by kernel_rfl) (Nat.le_of_ble_eq_true rfl) ?_
  simp only [Try.f45]
  refine HT_seq (HT_run (by simp [evs, evc, evcS, okCall, brw, brwL, brwT, brwA, frzC, frzL, frzP, matC, calleeOf, RV.ownB, CV.ownB, RV.onlyB, TV.onlyB, CV.onlyB, HS.made, impB_self, impB_true, impB_false, impB_one, impB_and, impB_and2, impB_imp, pickB_or, pickB_and, pickB_true, pickB_false, wpR, gdOf, clsOf, stpF, stpG, strip, gdR, ungd_true, litG_ungd, litG_lit, litG_gd, litG_any, litG_sl, litG_ptr, litG_own, litG_at, litG_agg, evOp, evN, evA, evR, evW, evBin, evUn, evStr, evNil, evAgg, intsL, ptrish, nilPtr, capsOf, ownOf, matApp, mapOf, mapRes, cellsOf, opd, lkp, ins, del, HS.put, okDst, unmB, sortB, RV.menB, TV.menB, CV.menB, Ob.menB, CV.cell, CD.cell, Value.oneCell', thenQ, blockQ, loopQ, constRV, fieldOf, elemTy, idxArr, arrOf, partOf, litOf, Hl.lit, rowsOf, dataOf, baseOf, moreOf, setRow, regsOf, latD, nsC, li, i64]; rfl) ?_)
  refine HT_seq (HT_run (by simp [evs, evc, evcS, okCall, brw, brwL, brwT, brwA, frzC, frzL, frzP, matC, calleeOf, RV.ownB, CV.ownB, RV.onlyB, TV.onlyB, CV.onlyB, HS.made, impB_self, impB_true, impB_false, impB_one, impB_and, impB_and2, impB_imp, pickB_or, pickB_and, pickB_true, pickB_false, wpR, gdOf, clsOf, stpF, stpG, strip, gdR, ungd_true, litG_ungd, litG_lit, litG_gd, litG_any, litG_sl, litG_ptr, litG_own, litG_at, litG_agg, evOp, evN, evA, evR, evW, evBin, evUn, evStr, evNil, evAgg, intsL, ptrish, nilPtr, capsOf, ownOf, matApp, mapOf, mapRes, cellsOf, opd, lkp, ins, del, HS.put, okDst, unmB, sortB, RV.menB, TV.menB, CV.menB, Ob.menB, CV.cell, CD.cell, Value.oneCell', thenQ, blockQ, loopQ, constRV, fieldOf, elemTy, idxArr, arrOf, partOf, litOf, Hl.lit, rowsOf, dataOf, baseOf, moreOf, setRow, matB, hb, rowB_get ha, bC]; rfl) ?_)
  exact HT_ret ⟨.inr rfl, _, le_refl _, ⟨_, rfl, by simp [evs, evc, evcS, okCall, brw, brwL, brwT, brwA, frzC, frzL, frzP, matC, calleeOf, RV.ownB, CV.ownB, RV.onlyB, TV.onlyB, CV.onlyB, HS.made, impB_self, impB_true, impB_false, impB_one, impB_and, impB_and2, impB_imp, pickB_or, pickB_and, pickB_true, pickB_false, wpR, gdOf, clsOf, stpF, stpG, strip, gdR, ungd_true, litG_ungd, litG_lit, litG_gd, litG_any, litG_sl, litG_ptr, litG_own, litG_at, litG_agg, evOp, evN, evA, evR, evW, evBin, evUn, evStr, evNil, evAgg, intsL, ptrish, nilPtr, capsOf, ownOf, matApp, mapOf, mapRes, cellsOf, opd, lkp, ins, del, HS.put, okDst, unmB, sortB, RV.menB, TV.menB, CV.menB, Ob.menB, CV.cell, CD.cell, Value.oneCell', thenQ, blockQ, loopQ, constRV, fieldOf, elemTy, idxArr, arrOf, partOf, litOf, Hl.lit, rowsOf, dataOf, baseOf, moreOf, setRow, resR, lb, bC]⟩, by simp, fun _ => ⟨rfl, by simp⟩⟩
end Go.Proofs.Ytkechegbfjggcaa
