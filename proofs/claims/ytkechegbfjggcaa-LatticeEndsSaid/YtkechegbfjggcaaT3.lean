/- T3: contracts of functions of the package, used by the proof of the claimed statement. Conditions: as each theorem states. -/
import Derived.Test.YtkechegbfjggcaaT2
set_option linter.unusedSimpArgs false
set_option linter.unusedVariables false
namespace Go.Proofs.Ytkechegbfjggcaa
open Go Go.Hl

/-! ## the closure of the pairs -/
def up (M : Nat → Nat → Bool) (x y : Nat) (v : Bool) : Nat → Nat → Bool := fun a b => if a = x ∧ b = y then v else M a b
def eqM : Nat → Nat → Bool := fun a b => decide (a = b)
def pairsM (order : List (Int × Int)) : Nat → Nat → Bool := order.foldl (fun M p => up M p.1.toNat p.2.toNat true) eqM
def stM (M : Nat → Nat → Bool) (m a b : Nat) : Nat → Nat → Bool := up M a b (M a b || (M a m && M m b))
def fwB (M : Nat → Nat → Bool) (m a k : Nat) : Nat → Nat → Bool := (List.range k).foldl (fun M b => stM M m a b) M
def fwA (n : Nat) (M : Nat → Nat → Bool) (m k : Nat) : Nat → Nat → Bool := (List.range k).foldl (fun M a => fwB M m a n) M
def fwM (n : Nat) (M : Nat → Nat → Bool) (k : Nat) : Nat → Nat → Bool := (List.range k).foldl (fun M m => fwA n M m n) M
def closeM (n : Nat) (order : List (Int × Int)) : Nat → Nat → Bool := fwM n (pairsM order) n
theorem fwB_succ (M : Nat → Nat → Bool) (m a k : Nat) : fwB M m a (k + 1) = stM (fwB M m a k) m a k := by simp [fwB, List.range_succ]
theorem fwA_succ (n : Nat) (M : Nat → Nat → Bool) (m k : Nat) : fwA n M m (k + 1) = fwB (fwA n M m k) m k n := by simp [fwA, List.range_succ]
theorem fwM_succ (n : Nat) (M : Nat → Nat → Bool) (k : Nat) : fwM n M (k + 1) = fwA n (fwM n M k) k n := by simp [fwM, List.range_succ]
theorem pairs_succ {order : List (Int × Int)} {k : Nat} {p : Int × Int} (h : order[k]? = some p) : pairsM (order.take (k + 1)) = up (pairsM (order.take k)) p.1.toNat p.2.toNat true := by
  simp [pairsM, List.take_add_one, h]

def rowsP (n k : Nat) : List (Option (List (List CD))) := (List.range n).map fun a => if a < k then some (rowB n eqM a) else none
def rowsM (n : Nat) (M : Nat → Nat → Bool) : List (Option (List (List CD))) := (List.range n).map fun a => some (rowB n M a)
theorem rowsP_len (n k : Nat) : (rowsP n k).length = n := by simp [rowsP]
theorem rowsM_len (n : Nat) (M : Nat → Nat → Bool) : (rowsM n M).length = n := by simp [rowsM]
theorem rowsM_get {n a : Nat} {M : Nat → Nat → Bool} (h : a < n) : (rowsM n M)[a]? = some (some (rowB n M a)) := by simp [rowsM, h]
@[simp] theorem rowsM_getE {n a : Nat} {M : Nat → Nat → Bool} (h : a < (rowsM n M).length) : (rowsM n M)[a]'h = some (rowB n M a) := by simp [rowsM]
@[simp] theorem rowB_getE {n a b : Nat} {M : Nat → Nat → Bool} (h : b < (rowB n M a).length) : (rowB n M a)[b]'h = [bC (M a b)] := by simp [rowB]
theorem rowsP_zero (n : Nat) : rowsP n 0 = List.replicate n none := by
  apply List.ext_getElem?
  intro i
  by_cases h : i < n <;> simp [rowsP, List.getElem?_replicate, h]
theorem rowsP_full (n : Nat) : rowsP n n = rowsM n eqM := by
  apply List.ext_getElem?
  intro i
  by_cases h : i < n <;> simp [rowsP, rowsM, h]
theorem rowsP_free {n k : Nat} (h : k < n) : freeAt (rowsP n k) k = true := by simp [freeAt, rowsP, h]
theorem row_eq {n k : Nat} (h : k < n) : (List.replicate n [bC false]).set k [bC true] = rowB n eqM k := by
  apply List.ext_getElem?
  intro i
  rw [List.getElem?_set]
  by_cases e : k = i
  · subst e; simp [rowB, eqM, h]
  · by_cases hi : i < n <;> simp [rowB, eqM, hi, e, List.getElem?_replicate]
theorem rowsP_succ {n k : Nat} (h : k < n) : (rowsP n k).set k (some (rowB n eqM k)) = rowsP n (k + 1) := by
  apply List.ext_getElem?
  intro i
  rw [List.getElem?_set, rowsP_len]
  by_cases e : k = i
  · subst e; simp [rowsP, h]
  · rw [if_neg e]
    by_cases hi : i < n
    · have e2 : (i < k) ↔ (i < k + 1) := by omega
      simp [rowsP, hi, e2]
    · simp [rowsP, hi]
theorem rowB_set {n x y : Nat} {M : Nat → Nat → Bool} {v : Bool} : (rowB n M x).set y [bC v] = rowB n (up M x y v) x := by
  apply List.ext_getElem?
  intro i
  rw [List.getElem?_set, rowB_len]
  by_cases e : y = i
  · subst e
    by_cases hi : y < n <;> simp [rowB, up, hi]
  · rw [if_neg e]
    by_cases hi : i < n <;> simp [rowB, up, hi, Ne.symm e]
theorem rowB_up {n x y a : Nat} {M : Nat → Nat → Bool} {v : Bool} (h : a ≠ x) : rowB n (up M x y v) a = rowB n M a := by simp [rowB, up, h]
theorem rowsM_set {n x y : Nat} {M : Nat → Nat → Bool} {v : Bool} : (rowsM n M).set x (some (rowB n (up M x y v) x)) = rowsM n (up M x y v) := by
  apply List.ext_getElem?
  intro i
  rw [List.getElem?_set, rowsM_len]
  by_cases e : x = i
  · subst e
    by_cases hi : x < n <;> simp [rowsM, hi]
  · rw [if_neg e]
    by_cases hi : i < n
    · simp [rowsM, hi, rowB_up (Ne.symm e)]
    · simp [rowsM, hi]
theorem matC_rows (n : Nat) (M : Nat → Nat → Bool) : CD.sl 1 ((rowsM n M).map fun r => [matC 1 r]) = matB n M := by simp [rowsM, matB, matC]

def orC (order : List (Int × Int)) : CD := .sl 2 (order.map fun p => [i64 p.1, i64 p.2])
def box5 (names : List ByteArray) (ix jn mt : CD) (n : Nat) : Ob := .box [.c (nsC names), .c ix, .own n, .c jn, .c mt]

def C1 (names : List ByteArray) (ix jn mt : CD) (order : List (Int × Int)) (n k : Nat) : HS :=
  ⟨119, [(0, .v (.one (.at_ 1000000 0))), (1, .v (.one (.c (orC order)))), (4, .v (li n)), (21, .v (li n)), (22, .v (li k))], [(1018, .mat 34 4 1 (rowsP n k)), (1000000, box5 names ix jn mt 1018)]⟩
def C2 (names : List ByteArray) (ix jn mt : CD) (order : List (Int × Int)) (n k : Nat) : HS :=
  ⟨119, [(0, .v (.one (.at_ 1000000 0))), (1, .v (.one (.c (orC order)))), (4, .v (li n)), (43, .v (.one (.c (orC order)))), (44, .v (li order.length)), (45, .v (li k))], [(1018, .mat 34 4 1 (rowsM n (pairsM (order.take k)))), (1000000, box5 names ix jn mt 1018)]⟩
def C3 (names : List ByteArray) (ix jn mt : CD) (n : Nat) (M : Nat → Nat → Bool) (m : Nat) : HS :=
  ⟨119, [(0, .v (.one (.at_ 1000000 0))), (4, .v (li n)), (61, .v (li n)), (62, .v (li m))], [(1018, .mat 34 4 1 (rowsM n (fwM n M m))), (1000000, box5 names ix jn mt 1018)]⟩
def C4 (names : List ByteArray) (ix jn mt : CD) (n : Nat) (M : Nat → Nat → Bool) (m a : Nat) : HS :=
  ⟨119, [(0, .v (.one (.at_ 1000000 0))), (4, .v (li n)), (8, .v (li m)), (61, .v (li n)), (62, .v (li m)), (65, .v (li n)), (66, .v (li a))], [(1018, .mat 34 4 1 (rowsM n (fwA n M m a))), (1000000, box5 names ix jn mt 1018)]⟩
def C5 (names : List ByteArray) (ix jn mt : CD) (n : Nat) (M : Nat → Nat → Bool) (m a b : Nat) : HS :=
  ⟨119, [(0, .v (.one (.at_ 1000000 0))), (4, .v (li n)), (8, .v (li m)), (9, .v (li a)), (61, .v (li n)), (62, .v (li m)), (65, .v (li n)), (66, .v (li a)), (69, .v (li n)), (70, .v (li b))], [(1018, .mat 34 4 1 (rowsM n (fwB M m a b))), (1000000, box5 names ix jn mt 1018)]⟩

set_option maxRecDepth 100000 in
theorem close_con (names : List ByteArray) (n : Nat) (hn : names.length = n) (h12 : n ≤ 12) (order : List (Int × Int)) (hlen : order.length ≤ 200) (hord : ∀ p ∈ order, (0 ≤ p.1 ∧ p.1 < n) ∧ 0 ≤ p.2 ∧ p.2 < n) (ix bl jn mt : CD) :
    ConIO Try.prog 37 [nsC names, ix, bl, jn, mt] [.one (.c (orC order))] (.tup []) [nsC names, ix, matB n (closeM n order), jn, mt] := by
  refine con_io_of_HT Try.func37 rfl (by kernel_rfl) (Nat.le_of_ble_eq_true rfl) ?_
  simp only [Try.f37]
  refine HT_seq (HT_run (by simp [evs, evc, evcS, okCall, brw, brwL, brwT, brwA, frzC, frzL, frzP, matC, calleeOf, RV.ownB, CV.ownB, RV.onlyB, TV.onlyB, CV.onlyB, HS.made, impB_self, impB_true, impB_false, impB_one, impB_and, impB_and2, impB_imp, pickB_or, pickB_and, pickB_true, pickB_false, wpR, gdOf, clsOf, stpF, stpG, strip, gdR, ungd_true, litG_ungd, litG_lit, litG_gd, litG_any, litG_sl, litG_ptr, litG_own, litG_at, litG_agg, evOp, evN, evA, evR, evW, evBin, evUn, evStr, evNil, evAgg, intsL, ptrish, nilPtr, capsOf, ownOf, matApp, mapOf, mapRes, cellsOf, opd, lkp, ins, del, HS.put, okDst, unmB, sortB, RV.menB, TV.menB, CV.menB, Ob.menB, CV.cell, CD.cell, Value.oneCell', thenQ, blockQ, loopQ, constRV, fieldOf, elemTy, idxArr, arrOf, partOf, litOf, Hl.lit, rowsOf, dataOf, baseOf, moreOf, setRow, regsOf, nsC, orC, li, i64, hn]; rfl) ?_)
  refine HT_seq (HT_run (by simp [evs, evc, evcS, okCall, brw, brwL, brwT, brwA, frzC, frzL, frzP, matC, calleeOf, RV.ownB, CV.ownB, RV.onlyB, TV.onlyB, CV.onlyB, HS.made, impB_self, impB_true, impB_false, impB_one, impB_and, impB_and2, impB_imp, pickB_or, pickB_and, pickB_true, pickB_false, wpR, gdOf, clsOf, stpF, stpG, strip, gdR, ungd_true, litG_ungd, litG_lit, litG_gd, litG_any, litG_sl, litG_ptr, litG_own, litG_at, litG_agg, evOp, evN, evA, evR, evW, evBin, evUn, evStr, evNil, evAgg, intsL, ptrish, nilPtr, capsOf, ownOf, matApp, mapOf, mapRes, cellsOf, opd, lkp, ins, del, HS.put, okDst, unmB, sortB, RV.menB, TV.menB, CV.menB, Ob.menB, CV.cell, CD.cell, Value.oneCell', thenQ, blockQ, loopQ, constRV, fieldOf, elemTy, idxArr, arrOf, partOf, litOf, Hl.lit, rowsOf, dataOf, baseOf, moreOf, setRow, show (n : Int) ≤ maxLen by unfold maxLen; omega, show 24 * (n : Int) ≤ 281474976710656 by omega]; rfl) ?_)
  refine HT_seq (HT_seq (HT_run (by simp [evs, evc, evcS, okCall, brw, brwL, brwT, brwA, frzC, frzL, frzP, matC, calleeOf, RV.ownB, CV.ownB, RV.onlyB, TV.onlyB, CV.onlyB, HS.made, impB_self, impB_true, impB_false, impB_one, impB_and, impB_and2, impB_imp, pickB_or, pickB_and, pickB_true, pickB_false, wpR, gdOf, clsOf, stpF, stpG, strip, gdR, ungd_true, litG_ungd, litG_lit, litG_gd, litG_any, litG_sl, litG_ptr, litG_own, litG_at, litG_agg, evOp, evN, evA, evR, evW, evBin, evUn, evStr, evNil, evAgg, intsL, ptrish, nilPtr, capsOf, ownOf, matApp, mapOf, mapRes, cellsOf, opd, lkp, ins, del, HS.put, okDst, unmB, sortB, RV.menB, TV.menB, CV.menB, Ob.menB, CV.cell, CD.cell, Value.oneCell', thenQ, blockQ, loopQ, constRV, fieldOf, elemTy, idxArr, arrOf, partOf, litOf, Hl.lit, rowsOf, dataOf, baseOf, moreOf, setRow]; rfl) ?_))
  refine HT_le (le_mat (k := n) 18 4 1 (by decide) (by decide) rfl (by simp [RV.menA, TV.menA, CV.menA]) (by simp [Ob.menA, CV.menA])) ?_
  refine HT_block (HT_loop (C1 names ix jn mt order n) (fun k => k ≤ n) (fun k => n - k) 0 (Nat.zero_le _) ?_ ?_)
  · refine le_mk (fun n => 18) [] rfl (by simp [allL, ins, RV.okNil, TV.okNil, CV.okNil, Ob.okNil, RV.ren, TV.ren, CV.ren, Ob.ren, pinR, opd, lkp, nilS, CV.frz, TV.frz, RV.frz, Ob.frz, HS.frz, mapL, del, C1, li, i64, orC]) ?_ (by simp [allL, ins, RV.okNil, TV.okNil, CV.okNil, Ob.okNil, RV.ren, TV.ren, CV.ren, Ob.ren, pinR, opd, lkp, nilS, CV.frz, TV.frz, RV.frz, Ob.frz, HS.frz, mapL, del, C1])
    simp [allL, ins, RV.okNil, TV.okNil, CV.okNil, Ob.okNil, RV.ren, TV.ren, CV.ren, Ob.ren, pinR, opd, lkp, nilS, CV.frz, TV.frz, RV.frz, Ob.frz, HS.frz, mapL, del, C1, box5, nsC, rowsP_zero]
  intro k hk
  simp only [C1]
  refine HT_seq (HT_run (by simp [evs, evc, evcS, okCall, brw, brwL, brwT, brwA, frzC, frzL, frzP, matC, calleeOf, RV.ownB, CV.ownB, RV.onlyB, TV.onlyB, CV.onlyB, HS.made, impB_self, impB_true, impB_false, impB_one, impB_and, impB_and2, impB_imp, pickB_or, pickB_and, pickB_true, pickB_false, wpR, gdOf, clsOf, stpF, stpG, strip, gdR, ungd_true, litG_ungd, litG_lit, litG_gd, litG_any, litG_sl, litG_ptr, litG_own, litG_at, litG_agg, evOp, evN, evA, evR, evW, evBin, evUn, evStr, evNil, evAgg, intsL, ptrish, nilPtr, capsOf, ownOf, matApp, mapOf, mapRes, cellsOf, opd, lkp, ins, del, HS.put, okDst, unmB, sortB, RV.menB, TV.menB, CV.menB, Ob.menB, CV.cell, CD.cell, Value.oneCell', thenQ, blockQ, loopQ, constRV, fieldOf, elemTy, idxArr, arrOf, partOf, litOf, Hl.lit, rowsOf, dataOf, baseOf, moreOf, setRow, li, i64]; rfl) ?_)
  refine HT_seq (HT_cond rfl (fun h => HT_skip ?_) (fun h => HT_exit ?_))
  · have hlt : k < n := by simpa using h
    have hw : IntKind.i64.wrap ((k : Int) + 1) = (k : Int) + 1 := wrap_in (by omega) (by omega)
    refine HT_seq (HT_block (HT_seq (HT_run (by simp [evs, evc, evcS, okCall, brw, brwL, brwT, brwA, frzC, frzL, frzP, matC, calleeOf, RV.ownB, CV.ownB, RV.onlyB, TV.onlyB, CV.onlyB, HS.made, impB_self, impB_true, impB_false, impB_one, impB_and, impB_and2, impB_imp, pickB_or, pickB_and, pickB_true, pickB_false, wpR, gdOf, clsOf, stpF, stpG, strip, gdR, ungd_true, litG_ungd, litG_lit, litG_gd, litG_any, litG_sl, litG_ptr, litG_own, litG_at, litG_agg, evOp, evN, evA, evR, evW, evBin, evUn, evStr, evNil, evAgg, intsL, ptrish, nilPtr, capsOf, ownOf, matApp, mapOf, mapRes, cellsOf, opd, lkp, ins, del, HS.put, okDst, unmB, sortB, RV.menB, TV.menB, CV.menB, Ob.menB, CV.cell, CD.cell, Value.oneCell', thenQ, blockQ, loopQ, constRV, fieldOf, elemTy, idxArr, arrOf, partOf, litOf, Hl.lit, rowsOf, dataOf, baseOf, moreOf, setRow]; rfl) ?_)))
    refine HT_seq (HT_drun (by kernel_rfl) (by kernel_rfl) (by rfl) (by simp [evs, evc, evcS, okCall, brw, brwL, brwT, brwA, frzC, frzL, frzP, matC, calleeOf, RV.ownB, CV.ownB, RV.onlyB, TV.onlyB, CV.onlyB, HS.made, impB_self, impB_true, impB_false, impB_one, impB_and, impB_and2, impB_imp, pickB_or, pickB_and, pickB_true, pickB_false, wpR, gdOf, clsOf, stpF, stpG, strip, gdR, ungd_true, litG_ungd, litG_lit, litG_gd, litG_any, litG_sl, litG_ptr, litG_own, litG_at, litG_agg, evOp, evN, evA, evR, evW, evBin, evUn, evStr, evNil, evAgg, intsL, ptrish, nilPtr, capsOf, ownOf, matApp, mapOf, mapRes, cellsOf, opd, lkp, ins, del, HS.put, okDst, unmB, sortB, RV.menB, TV.menB, CV.menB, Ob.menB, CV.cell, CD.cell, Value.oneCell', thenQ, blockQ, loopQ, constRV, fieldOf, elemTy, idxArr, arrOf, partOf, litOf, Hl.lit, rowsOf, dataOf, baseOf, moreOf, setRow, box5, rowsP_len, hlt, rowsP_free hlt, show (n : Int) ≤ maxLen by unfold maxLen; omega, show (n : Int) ≤ 281474976710656 by omega]; rfl) ?_)
    refine HT_run (by simp [evs, evc, evcS, okCall, brw, brwL, brwT, brwA, frzC, frzL, frzP, matC, calleeOf, RV.ownB, CV.ownB, RV.onlyB, TV.onlyB, CV.onlyB, HS.made, impB_self, impB_true, impB_false, impB_one, impB_and, impB_and2, impB_imp, pickB_or, pickB_and, pickB_true, pickB_false, wpR, gdOf, clsOf, stpF, stpG, strip, gdR, ungd_true, litG_ungd, litG_lit, litG_gd, litG_any, litG_sl, litG_ptr, litG_own, litG_at, litG_agg, evOp, evN, evA, evR, evW, evBin, evUn, evStr, evNil, evAgg, intsL, ptrish, nilPtr, capsOf, ownOf, matApp, mapOf, mapRes, cellsOf, opd, lkp, ins, del, HS.put, okDst, unmB, sortB, RV.menB, TV.menB, CV.menB, Ob.menB, CV.cell, CD.cell, Value.oneCell', thenQ, blockQ, loopQ, constRV, fieldOf, elemTy, idxArr, arrOf, partOf, litOf, Hl.lit, rowsOf, dataOf, baseOf, moreOf, setRow, rowsP_len, hlt, List.getElem?_set_self]; rfl) ?_
    refine HT_run (by simp [evs, evc, evcS, okCall, brw, brwL, brwT, brwA, frzC, frzL, frzP, matC, calleeOf, RV.ownB, CV.ownB, RV.onlyB, TV.onlyB, CV.onlyB, HS.made, impB_self, impB_true, impB_false, impB_one, impB_and, impB_and2, impB_imp, pickB_or, pickB_and, pickB_true, pickB_false, wpR, gdOf, clsOf, stpF, stpG, strip, gdR, ungd_true, litG_ungd, litG_lit, litG_gd, litG_any, litG_sl, litG_ptr, litG_own, litG_at, litG_agg, evOp, evN, evA, evR, evW, evBin, evUn, evStr, evNil, evAgg, intsL, ptrish, nilPtr, capsOf, ownOf, matApp, mapOf, mapRes, cellsOf, opd, lkp, ins, del, HS.put, okDst, unmB, sortB, RV.menB, TV.menB, CV.menB, Ob.menB, CV.cell, CD.cell, Value.oneCell', thenQ, blockQ, loopQ, constRV, fieldOf, elemTy, idxArr, arrOf, partOf, litOf, Hl.lit, rowsOf, dataOf, baseOf, moreOf, setRow, hw]; rfl) ?_
    refine ⟨k + 1, hlt, by omega, ?_⟩
    refine le_mk (fun n => n) [] rfl (by simp [allL, ins, RV.okNil, TV.okNil, CV.okNil, Ob.okNil, RV.ren, TV.ren, CV.ren, Ob.ren, pinR, opd, lkp, nilS, CV.frz, TV.frz, RV.frz, Ob.frz, HS.frz, mapL, del, C1, li, i64, orC, hw]) ?_ (by simp [allL, ins, RV.okNil, TV.okNil, CV.okNil, Ob.okNil, RV.ren, TV.ren, CV.ren, Ob.ren, pinR, opd, lkp, nilS, CV.frz, TV.frz, RV.frz, Ob.frz, HS.frz, mapL, del, C1])
    have := row_eq hlt
    simp only [bC] at this
    simp [allL, ins, RV.okNil, TV.okNil, CV.okNil, Ob.okNil, RV.ren, TV.ren, CV.ren, Ob.ren, pinR, opd, lkp, nilS, CV.frz, TV.frz, RV.frz, Ob.frz, HS.frz, mapL, del, C1, box5, nsC, this, rowsP_succ hlt]
  · have hkn : k = n := by simp at h; omega
    subst hkn
    rw [rowsP_full]
    refine HT_seq (HT_seq (HT_run (by simp [evs, evc, evcS, okCall, brw, brwL, brwT, brwA, frzC, frzL, frzP, matC, calleeOf, RV.ownB, CV.ownB, RV.onlyB, TV.onlyB, CV.onlyB, HS.made, impB_self, impB_true, impB_false, impB_one, impB_and, impB_and2, impB_imp, pickB_or, pickB_and, pickB_true, pickB_false, wpR, gdOf, clsOf, stpF, stpG, strip, gdR, ungd_true, litG_ungd, litG_lit, litG_gd, litG_any, litG_sl, litG_ptr, litG_own, litG_at, litG_agg, evOp, evN, evA, evR, evW, evBin, evUn, evStr, evNil, evAgg, intsL, ptrish, nilPtr, capsOf, ownOf, matApp, mapOf, mapRes, cellsOf, opd, lkp, ins, del, HS.put, okDst, unmB, sortB, RV.menB, TV.menB, CV.menB, Ob.menB, CV.cell, CD.cell, Value.oneCell', thenQ, blockQ, loopQ, constRV, fieldOf, elemTy, idxArr, arrOf, partOf, litOf, Hl.lit, rowsOf, dataOf, baseOf, moreOf, setRow, orC]; rfl) ?_))
    refine HT_block (HT_loop (C2 names ix jn mt order k) (fun j => j ≤ order.length) (fun j => order.length - j) 0 (Nat.zero_le _) ?_ ?_)
    · exact le_mk (fun n => n) [] rfl (by simp [allL, ins, RV.okNil, TV.okNil, CV.okNil, Ob.okNil, RV.ren, TV.ren, CV.ren, Ob.ren, pinR, opd, lkp, nilS, CV.frz, TV.frz, RV.frz, Ob.frz, HS.frz, mapL, del, C2, li, i64, orC]) (by simp [allL, ins, RV.okNil, TV.okNil, CV.okNil, Ob.okNil, RV.ren, TV.ren, CV.ren, Ob.ren, pinR, opd, lkp, nilS, CV.frz, TV.frz, RV.frz, Ob.frz, HS.frz, mapL, del, C2, box5, pairsM]) (by simp [allL, ins, RV.okNil, TV.okNil, CV.okNil, Ob.okNil, RV.ren, TV.ren, CV.ren, Ob.ren, pinR, opd, lkp, nilS, CV.frz, TV.frz, RV.frz, Ob.frz, HS.frz, mapL, del, C2])
    intro j hj
    simp only [C2]
    refine HT_seq (HT_run (by simp [evs, evc, evcS, okCall, brw, brwL, brwT, brwA, frzC, frzL, frzP, matC, calleeOf, RV.ownB, CV.ownB, RV.onlyB, TV.onlyB, CV.onlyB, HS.made, impB_self, impB_true, impB_false, impB_one, impB_and, impB_and2, impB_imp, pickB_or, pickB_and, pickB_true, pickB_false, wpR, gdOf, clsOf, stpF, stpG, strip, gdR, ungd_true, litG_ungd, litG_lit, litG_gd, litG_any, litG_sl, litG_ptr, litG_own, litG_at, litG_agg, evOp, evN, evA, evR, evW, evBin, evUn, evStr, evNil, evAgg, intsL, ptrish, nilPtr, capsOf, ownOf, matApp, mapOf, mapRes, cellsOf, opd, lkp, ins, del, HS.put, okDst, unmB, sortB, RV.menB, TV.menB, CV.menB, Ob.menB, CV.cell, CD.cell, Value.oneCell', thenQ, blockQ, loopQ, constRV, fieldOf, elemTy, idxArr, arrOf, partOf, litOf, Hl.lit, rowsOf, dataOf, baseOf, moreOf, setRow, li, i64]; rfl) ?_)
    refine HT_seq (HT_cond rfl (fun h => HT_skip ?_) (fun h => HT_exit ?_))
    · have hlj : j < order.length := by simpa using h
      have hw : IntKind.i64.wrap ((j : Int) + 1) = (j : Int) + 1 := wrap_in (by omega) (by omega)
      obtain ⟨x, y, hv, hx, hy⟩ : ∃ x y : Nat, order[j]? = some ((x : Int), (y : Int)) ∧ x < k ∧ y < k := by
        have hm := hord order[j] (List.getElem_mem hlj)
        refine ⟨order[j].1.toNat, order[j].2.toNat, ?_, by omega, by omega⟩
        rw [List.getElem?_eq_getElem hlj]
        congr 1
        refine Prod.ext ?_ ?_
        · show order[j].1 = (order[j].1.toNat : Int); omega
        · show order[j].2 = (order[j].2.toNat : Int); omega
      have hps := pairs_succ hv
      simp only [Int.toNat_natCast] at hps
      generalize pairsM (order.take j) = M at *
      refine HT_seq (HT_block (HT_seq (HT_run (by simp [evs, evc, evcS, okCall, brw, brwL, brwT, brwA, frzC, frzL, frzP, matC, calleeOf, RV.ownB, CV.ownB, RV.onlyB, TV.onlyB, CV.onlyB, HS.made, impB_self, impB_true, impB_false, impB_one, impB_and, impB_and2, impB_imp, pickB_or, pickB_and, pickB_true, pickB_false, wpR, gdOf, clsOf, stpF, stpG, strip, gdR, ungd_true, litG_ungd, litG_lit, litG_gd, litG_any, litG_sl, litG_ptr, litG_own, litG_at, litG_agg, evOp, evN, evA, evR, evW, evBin, evUn, evStr, evNil, evAgg, intsL, ptrish, nilPtr, capsOf, ownOf, matApp, mapOf, mapRes, cellsOf, opd, lkp, ins, del, HS.put, okDst, unmB, sortB, RV.menB, TV.menB, CV.menB, Ob.menB, CV.cell, CD.cell, Value.oneCell', thenQ, blockQ, loopQ, constRV, fieldOf, elemTy, idxArr, arrOf, partOf, litOf, Hl.lit, rowsOf, dataOf, baseOf, moreOf, setRow, orC, hv, i64]; rfl) ?_)))
      refine HT_drun (by kernel_rfl) (by kernel_rfl) (by rfl) (by simp [evs, evc, evcS, okCall, brw, brwL, brwT, brwA, frzC, frzL, frzP, matC, calleeOf, RV.ownB, CV.ownB, RV.onlyB, TV.onlyB, CV.onlyB, HS.made, impB_self, impB_true, impB_false, impB_one, impB_and, impB_and2, impB_imp, pickB_or, pickB_and, pickB_true, pickB_false, wpR, gdOf, clsOf, stpF, stpG, strip, gdR, ungd_true, litG_ungd, litG_lit, litG_gd, litG_any, litG_sl, litG_ptr, litG_own, litG_at, litG_agg, evOp, evN, evA, evR, evW, evBin, evUn, evStr, evNil, evAgg, intsL, ptrish, nilPtr, capsOf, ownOf, matApp, mapOf, mapRes, cellsOf, opd, lkp, ins, del, HS.put, okDst, unmB, sortB, RV.menB, TV.menB, CV.menB, Ob.menB, CV.cell, CD.cell, Value.oneCell', thenQ, blockQ, loopQ, constRV, fieldOf, elemTy, idxArr, arrOf, partOf, litOf, Hl.lit, rowsOf, dataOf, baseOf, moreOf, setRow, box5, rowsM_len, hx, hy, rowsM_get hx, rowB_len, rowB_get hy, bC]; rfl) ?_
      refine HT_run (by simp [evs, evc, evcS, okCall, brw, brwL, brwT, brwA, frzC, frzL, frzP, matC, calleeOf, RV.ownB, CV.ownB, RV.onlyB, TV.onlyB, CV.onlyB, HS.made, impB_self, impB_true, impB_false, impB_one, impB_and, impB_and2, impB_imp, pickB_or, pickB_and, pickB_true, pickB_false, wpR, gdOf, clsOf, stpF, stpG, strip, gdR, ungd_true, litG_ungd, litG_lit, litG_gd, litG_any, litG_sl, litG_ptr, litG_own, litG_at, litG_agg, evOp, evN, evA, evR, evW, evBin, evUn, evStr, evNil, evAgg, intsL, ptrish, nilPtr, capsOf, ownOf, matApp, mapOf, mapRes, cellsOf, opd, lkp, ins, del, HS.put, okDst, unmB, sortB, RV.menB, TV.menB, CV.menB, Ob.menB, CV.cell, CD.cell, Value.oneCell', thenQ, blockQ, loopQ, constRV, fieldOf, elemTy, idxArr, arrOf, partOf, litOf, Hl.lit, rowsOf, dataOf, baseOf, moreOf, setRow, hw]; rfl) ?_
      refine ⟨j + 1, hlj, by omega, ?_⟩
      refine le_mk (fun n => n) [] rfl (by simp [allL, ins, RV.okNil, TV.okNil, CV.okNil, Ob.okNil, RV.ren, TV.ren, CV.ren, Ob.ren, pinR, opd, lkp, nilS, CV.frz, TV.frz, RV.frz, Ob.frz, HS.frz, mapL, del, C2, li, i64, orC, hw]) ?_ (by simp [allL, ins, RV.okNil, TV.okNil, CV.okNil, Ob.okNil, RV.ren, TV.ren, CV.ren, Ob.ren, pinR, opd, lkp, nilS, CV.frz, TV.frz, RV.frz, Ob.frz, HS.frz, mapL, del, C2])
      have h1 := @rowB_set k x y M true
      simp only [bC] at h1
      simp [allL, ins, RV.okNil, TV.okNil, CV.okNil, Ob.okNil, RV.ren, TV.ren, CV.ren, Ob.ren, pinR, opd, lkp, nilS, CV.frz, TV.frz, RV.frz, Ob.frz, HS.frz, mapL, del, C2, box5, hps, h1, rowsM_set]
    · have hjl : j = order.length := by simp at h; omega
      subst hjl
      rw [List.take_length]
      refine HT_seq (HT_run (by simp [evs, evc, evcS, okCall, brw, brwL, brwT, brwA, frzC, frzL, frzP, matC, calleeOf, RV.ownB, CV.ownB, RV.onlyB, TV.onlyB, CV.onlyB, HS.made, impB_self, impB_true, impB_false, impB_one, impB_and, impB_and2, impB_imp, pickB_or, pickB_and, pickB_true, pickB_false, wpR, gdOf, clsOf, stpF, stpG, strip, gdR, ungd_true, litG_ungd, litG_lit, litG_gd, litG_any, litG_sl, litG_ptr, litG_own, litG_at, litG_agg, evOp, evN, evA, evR, evW, evBin, evUn, evStr, evNil, evAgg, intsL, ptrish, nilPtr, capsOf, ownOf, matApp, mapOf, mapRes, cellsOf, opd, lkp, ins, del, HS.put, okDst, unmB, sortB, RV.menB, TV.menB, CV.menB, Ob.menB, CV.cell, CD.cell, Value.oneCell', thenQ, blockQ, loopQ, constRV, fieldOf, elemTy, idxArr, arrOf, partOf, litOf, Hl.lit, rowsOf, dataOf, baseOf, moreOf, setRow]; rfl) ?_)
      refine HT_block (HT_loop (C3 names ix jn mt k (pairsM order)) (fun m => m ≤ k) (fun m => k - m) 0 (Nat.zero_le _) ?_ ?_)
      · exact le_mk (fun n => n) [] rfl (by simp [allL, ins, RV.okNil, TV.okNil, CV.okNil, Ob.okNil, RV.ren, TV.ren, CV.ren, Ob.ren, pinR, opd, lkp, nilS, CV.frz, TV.frz, RV.frz, Ob.frz, HS.frz, mapL, del, C3, li, i64]) (by simp [allL, ins, RV.okNil, TV.okNil, CV.okNil, Ob.okNil, RV.ren, TV.ren, CV.ren, Ob.ren, pinR, opd, lkp, nilS, CV.frz, TV.frz, RV.frz, Ob.frz, HS.frz, mapL, del, C3, box5, fwM]) (by simp [allL, ins, RV.okNil, TV.okNil, CV.okNil, Ob.okNil, RV.ren, TV.ren, CV.ren, Ob.ren, pinR, opd, lkp, nilS, CV.frz, TV.frz, RV.frz, Ob.frz, HS.frz, mapL, del, C3])
      intro m hm
      simp only [C3]
      refine HT_seq (HT_run (by simp [evs, evc, evcS, okCall, brw, brwL, brwT, brwA, frzC, frzL, frzP, matC, calleeOf, RV.ownB, CV.ownB, RV.onlyB, TV.onlyB, CV.onlyB, HS.made, impB_self, impB_true, impB_false, impB_one, impB_and, impB_and2, impB_imp, pickB_or, pickB_and, pickB_true, pickB_false, wpR, gdOf, clsOf, stpF, stpG, strip, gdR, ungd_true, litG_ungd, litG_lit, litG_gd, litG_any, litG_sl, litG_ptr, litG_own, litG_at, litG_agg, evOp, evN, evA, evR, evW, evBin, evUn, evStr, evNil, evAgg, intsL, ptrish, nilPtr, capsOf, ownOf, matApp, mapOf, mapRes, cellsOf, opd, lkp, ins, del, HS.put, okDst, unmB, sortB, RV.menB, TV.menB, CV.menB, Ob.menB, CV.cell, CD.cell, Value.oneCell', thenQ, blockQ, loopQ, constRV, fieldOf, elemTy, idxArr, arrOf, partOf, litOf, Hl.lit, rowsOf, dataOf, baseOf, moreOf, setRow, li, i64]; rfl) ?_)
      refine HT_seq (HT_cond rfl (fun h => HT_skip ?_) (fun h => HT_exit ?_))
      · have hlm : m < k := by simpa using h
        have hwm : IntKind.i64.wrap ((m : Int) + 1) = (m : Int) + 1 := wrap_in (by omega) (by omega)
        have hsm := fwM_succ k (pairsM order) m
        generalize fwM k (pairsM order) m = M at *
        refine HT_seq (HT_block (HT_seq (HT_run (by simp [evs, evc, evcS, okCall, brw, brwL, brwT, brwA, frzC, frzL, frzP, matC, calleeOf, RV.ownB, CV.ownB, RV.onlyB, TV.onlyB, CV.onlyB, HS.made, impB_self, impB_true, impB_false, impB_one, impB_and, impB_and2, impB_imp, pickB_or, pickB_and, pickB_true, pickB_false, wpR, gdOf, clsOf, stpF, stpG, strip, gdR, ungd_true, litG_ungd, litG_lit, litG_gd, litG_any, litG_sl, litG_ptr, litG_own, litG_at, litG_agg, evOp, evN, evA, evR, evW, evBin, evUn, evStr, evNil, evAgg, intsL, ptrish, nilPtr, capsOf, ownOf, matApp, mapOf, mapRes, cellsOf, opd, lkp, ins, del, HS.put, okDst, unmB, sortB, RV.menB, TV.menB, CV.menB, Ob.menB, CV.cell, CD.cell, Value.oneCell', thenQ, blockQ, loopQ, constRV, fieldOf, elemTy, idxArr, arrOf, partOf, litOf, Hl.lit, rowsOf, dataOf, baseOf, moreOf, setRow]; rfl) ?_)))
        refine HT_seq (HT_run (by simp [evs, evc, evcS, okCall, brw, brwL, brwT, brwA, frzC, frzL, frzP, matC, calleeOf, RV.ownB, CV.ownB, RV.onlyB, TV.onlyB, CV.onlyB, HS.made, impB_self, impB_true, impB_false, impB_one, impB_and, impB_and2, impB_imp, pickB_or, pickB_and, pickB_true, pickB_false, wpR, gdOf, clsOf, stpF, stpG, strip, gdR, ungd_true, litG_ungd, litG_lit, litG_gd, litG_any, litG_sl, litG_ptr, litG_own, litG_at, litG_agg, evOp, evN, evA, evR, evW, evBin, evUn, evStr, evNil, evAgg, intsL, ptrish, nilPtr, capsOf, ownOf, matApp, mapOf, mapRes, cellsOf, opd, lkp, ins, del, HS.put, okDst, unmB, sortB, RV.menB, TV.menB, CV.menB, Ob.menB, CV.cell, CD.cell, Value.oneCell', thenQ, blockQ, loopQ, constRV, fieldOf, elemTy, idxArr, arrOf, partOf, litOf, Hl.lit, rowsOf, dataOf, baseOf, moreOf, setRow]; rfl) ?_)
        refine HT_block (HT_loop (C4 names ix jn mt k M m) (fun a => a ≤ k) (fun a => k - a) 0 (Nat.zero_le _) ?_ ?_)
        · exact le_mk (fun n => n) [] rfl (by simp [allL, ins, RV.okNil, TV.okNil, CV.okNil, Ob.okNil, RV.ren, TV.ren, CV.ren, Ob.ren, pinR, opd, lkp, nilS, CV.frz, TV.frz, RV.frz, Ob.frz, HS.frz, mapL, del, C4, li, i64]) (by simp [allL, ins, RV.okNil, TV.okNil, CV.okNil, Ob.okNil, RV.ren, TV.ren, CV.ren, Ob.ren, pinR, opd, lkp, nilS, CV.frz, TV.frz, RV.frz, Ob.frz, HS.frz, mapL, del, C4, box5, fwA]) (by simp [allL, ins, RV.okNil, TV.okNil, CV.okNil, Ob.okNil, RV.ren, TV.ren, CV.ren, Ob.ren, pinR, opd, lkp, nilS, CV.frz, TV.frz, RV.frz, Ob.frz, HS.frz, mapL, del, C4])
        intro a ha
        simp only [C4]
        refine HT_seq (HT_run (by simp [evs, evc, evcS, okCall, brw, brwL, brwT, brwA, frzC, frzL, frzP, matC, calleeOf, RV.ownB, CV.ownB, RV.onlyB, TV.onlyB, CV.onlyB, HS.made, impB_self, impB_true, impB_false, impB_one, impB_and, impB_and2, impB_imp, pickB_or, pickB_and, pickB_true, pickB_false, wpR, gdOf, clsOf, stpF, stpG, strip, gdR, ungd_true, litG_ungd, litG_lit, litG_gd, litG_any, litG_sl, litG_ptr, litG_own, litG_at, litG_agg, evOp, evN, evA, evR, evW, evBin, evUn, evStr, evNil, evAgg, intsL, ptrish, nilPtr, capsOf, ownOf, matApp, mapOf, mapRes, cellsOf, opd, lkp, ins, del, HS.put, okDst, unmB, sortB, RV.menB, TV.menB, CV.menB, Ob.menB, CV.cell, CD.cell, Value.oneCell', thenQ, blockQ, loopQ, constRV, fieldOf, elemTy, idxArr, arrOf, partOf, litOf, Hl.lit, rowsOf, dataOf, baseOf, moreOf, setRow, li, i64]; rfl) ?_)
        refine HT_seq (HT_cond rfl (fun h => HT_skip ?_) (fun h => HT_exit ?_))
        · have hla : a < k := by simpa using h
          have hwa : IntKind.i64.wrap ((a : Int) + 1) = (a : Int) + 1 := wrap_in (by omega) (by omega)
          have hsa := fwA_succ k M m a
          generalize fwA k M m a = M2 at *
          refine HT_seq (HT_block (HT_seq (HT_run (by simp [evs, evc, evcS, okCall, brw, brwL, brwT, brwA, frzC, frzL, frzP, matC, calleeOf, RV.ownB, CV.ownB, RV.onlyB, TV.onlyB, CV.onlyB, HS.made, impB_self, impB_true, impB_false, impB_one, impB_and, impB_and2, impB_imp, pickB_or, pickB_and, pickB_true, pickB_false, wpR, gdOf, clsOf, stpF, stpG, strip, gdR, ungd_true, litG_ungd, litG_lit, litG_gd, litG_any, litG_sl, litG_ptr, litG_own, litG_at, litG_agg, evOp, evN, evA, evR, evW, evBin, evUn, evStr, evNil, evAgg, intsL, ptrish, nilPtr, capsOf, ownOf, matApp, mapOf, mapRes, cellsOf, opd, lkp, ins, del, HS.put, okDst, unmB, sortB, RV.menB, TV.menB, CV.menB, Ob.menB, CV.cell, CD.cell, Value.oneCell', thenQ, blockQ, loopQ, constRV, fieldOf, elemTy, idxArr, arrOf, partOf, litOf, Hl.lit, rowsOf, dataOf, baseOf, moreOf, setRow]; rfl) ?_)))
          refine HT_seq (HT_run (by simp [evs, evc, evcS, okCall, brw, brwL, brwT, brwA, frzC, frzL, frzP, matC, calleeOf, RV.ownB, CV.ownB, RV.onlyB, TV.onlyB, CV.onlyB, HS.made, impB_self, impB_true, impB_false, impB_one, impB_and, impB_and2, impB_imp, pickB_or, pickB_and, pickB_true, pickB_false, wpR, gdOf, clsOf, stpF, stpG, strip, gdR, ungd_true, litG_ungd, litG_lit, litG_gd, litG_any, litG_sl, litG_ptr, litG_own, litG_at, litG_agg, evOp, evN, evA, evR, evW, evBin, evUn, evStr, evNil, evAgg, intsL, ptrish, nilPtr, capsOf, ownOf, matApp, mapOf, mapRes, cellsOf, opd, lkp, ins, del, HS.put, okDst, unmB, sortB, RV.menB, TV.menB, CV.menB, Ob.menB, CV.cell, CD.cell, Value.oneCell', thenQ, blockQ, loopQ, constRV, fieldOf, elemTy, idxArr, arrOf, partOf, litOf, Hl.lit, rowsOf, dataOf, baseOf, moreOf, setRow]; rfl) ?_)
          refine HT_block (HT_loop (C5 names ix jn mt k M2 m a) (fun b => b ≤ k) (fun b => k - b) 0 (Nat.zero_le _) ?_ ?_)
          · exact le_mk (fun n => n) [] rfl (by simp [allL, ins, RV.okNil, TV.okNil, CV.okNil, Ob.okNil, RV.ren, TV.ren, CV.ren, Ob.ren, pinR, opd, lkp, nilS, CV.frz, TV.frz, RV.frz, Ob.frz, HS.frz, mapL, del, C5, li, i64]) (by simp [allL, ins, RV.okNil, TV.okNil, CV.okNil, Ob.okNil, RV.ren, TV.ren, CV.ren, Ob.ren, pinR, opd, lkp, nilS, CV.frz, TV.frz, RV.frz, Ob.frz, HS.frz, mapL, del, C5, box5, fwB]) (by simp [allL, ins, RV.okNil, TV.okNil, CV.okNil, Ob.okNil, RV.ren, TV.ren, CV.ren, Ob.ren, pinR, opd, lkp, nilS, CV.frz, TV.frz, RV.frz, Ob.frz, HS.frz, mapL, del, C5])
          intro b hb
          simp only [C5]
          refine HT_seq (HT_run (by simp [evs, evc, evcS, okCall, brw, brwL, brwT, brwA, frzC, frzL, frzP, matC, calleeOf, RV.ownB, CV.ownB, RV.onlyB, TV.onlyB, CV.onlyB, HS.made, impB_self, impB_true, impB_false, impB_one, impB_and, impB_and2, impB_imp, pickB_or, pickB_and, pickB_true, pickB_false, wpR, gdOf, clsOf, stpF, stpG, strip, gdR, ungd_true, litG_ungd, litG_lit, litG_gd, litG_any, litG_sl, litG_ptr, litG_own, litG_at, litG_agg, evOp, evN, evA, evR, evW, evBin, evUn, evStr, evNil, evAgg, intsL, ptrish, nilPtr, capsOf, ownOf, matApp, mapOf, mapRes, cellsOf, opd, lkp, ins, del, HS.put, okDst, unmB, sortB, RV.menB, TV.menB, CV.menB, Ob.menB, CV.cell, CD.cell, Value.oneCell', thenQ, blockQ, loopQ, constRV, fieldOf, elemTy, idxArr, arrOf, partOf, litOf, Hl.lit, rowsOf, dataOf, baseOf, moreOf, setRow, li, i64]; rfl) ?_)
          refine HT_seq (HT_cond rfl (fun h => HT_skip ?_) (fun h => HT_exit ?_))
          · have hlb : b < k := by simpa using h
            have hwb : IntKind.i64.wrap ((b : Int) + 1) = (b : Int) + 1 := wrap_in (by omega) (by omega)
            have hsb := fwB_succ M2 m a b
            generalize fwB M2 m a b = M3 at *
            refine HT_seq (HT_block (HT_seq (HT_run (by simp [evs, evc, evcS, okCall, brw, brwL, brwT, brwA, frzC, frzL, frzP, matC, calleeOf, RV.ownB, CV.ownB, RV.onlyB, TV.onlyB, CV.onlyB, HS.made, impB_self, impB_true, impB_false, impB_one, impB_and, impB_and2, impB_imp, pickB_or, pickB_and, pickB_true, pickB_false, wpR, gdOf, clsOf, stpF, stpG, strip, gdR, ungd_true, litG_ungd, litG_lit, litG_gd, litG_any, litG_sl, litG_ptr, litG_own, litG_at, litG_agg, evOp, evN, evA, evR, evW, evBin, evUn, evStr, evNil, evAgg, intsL, ptrish, nilPtr, capsOf, ownOf, matApp, mapOf, mapRes, cellsOf, opd, lkp, ins, del, HS.put, okDst, unmB, sortB, RV.menB, TV.menB, CV.menB, Ob.menB, CV.cell, CD.cell, Value.oneCell', thenQ, blockQ, loopQ, constRV, fieldOf, elemTy, idxArr, arrOf, partOf, litOf, Hl.lit, rowsOf, dataOf, baseOf, moreOf, setRow]; rfl) ?_)))
            refine HT_drun (by kernel_rfl) (by kernel_rfl) (by rfl) (by simp [evs, evc, evcS, okCall, brw, brwL, brwT, brwA, frzC, frzL, frzP, matC, calleeOf, RV.ownB, CV.ownB, RV.onlyB, TV.onlyB, CV.onlyB, HS.made, impB_self, impB_true, impB_false, impB_one, impB_and, impB_and2, impB_imp, pickB_or, pickB_and, pickB_true, pickB_false, wpR, gdOf, clsOf, stpF, stpG, strip, gdR, ungd_true, litG_ungd, litG_lit, litG_gd, litG_any, litG_sl, litG_ptr, litG_own, litG_at, litG_agg, evOp, evN, evA, evR, evW, evBin, evUn, evStr, evNil, evAgg, intsL, ptrish, nilPtr, capsOf, ownOf, matApp, mapOf, mapRes, cellsOf, opd, lkp, ins, del, HS.put, okDst, unmB, sortB, RV.menB, TV.menB, CV.menB, Ob.menB, CV.cell, CD.cell, Value.oneCell', thenQ, blockQ, loopQ, constRV, fieldOf, elemTy, idxArr, arrOf, partOf, litOf, Hl.lit, rowsOf, dataOf, baseOf, moreOf, setRow, box5, rowsM_len, hla, hlb, hlm, rowsM_get hla, rowsM_get hlm, rowB_len, rowB_get hlb, rowB_get hlm, bC]; rfl) ?_
            refine HT_run (by simp [evs, evc, evcS, okCall, brw, brwL, brwT, brwA, frzC, frzL, frzP, matC, calleeOf, RV.ownB, CV.ownB, RV.onlyB, TV.onlyB, CV.onlyB, HS.made, impB_self, impB_true, impB_false, impB_one, impB_and, impB_and2, impB_imp, pickB_or, pickB_and, pickB_true, pickB_false, wpR, gdOf, clsOf, stpF, stpG, strip, gdR, ungd_true, litG_ungd, litG_lit, litG_gd, litG_any, litG_sl, litG_ptr, litG_own, litG_at, litG_agg, evOp, evN, evA, evR, evW, evBin, evUn, evStr, evNil, evAgg, intsL, ptrish, nilPtr, capsOf, ownOf, matApp, mapOf, mapRes, cellsOf, opd, lkp, ins, del, HS.put, okDst, unmB, sortB, RV.menB, TV.menB, CV.menB, Ob.menB, CV.cell, CD.cell, Value.oneCell', thenQ, blockQ, loopQ, constRV, fieldOf, elemTy, idxArr, arrOf, partOf, litOf, Hl.lit, rowsOf, dataOf, baseOf, moreOf, setRow, hwb]; rfl) ?_
            refine ⟨b + 1, hlb, by omega, ?_⟩
            refine le_mk (fun n => n) [] rfl (by simp [allL, ins, RV.okNil, TV.okNil, CV.okNil, Ob.okNil, RV.ren, TV.ren, CV.ren, Ob.ren, pinR, opd, lkp, nilS, CV.frz, TV.frz, RV.frz, Ob.frz, HS.frz, mapL, del, C5, li, i64, hwb]) ?_ (by simp [allL, ins, RV.okNil, TV.okNil, CV.okNil, Ob.okNil, RV.ren, TV.ren, CV.ren, Ob.ren, pinR, opd, lkp, nilS, CV.frz, TV.frz, RV.frz, Ob.frz, HS.frz, mapL, del, C5])
            have h1 := @rowB_set k a b M3 (M3 a b || (M3 a m && M3 m b))
            simp only [bC] at h1
            simp [allL, ins, RV.okNil, TV.okNil, CV.okNil, Ob.okNil, RV.ren, TV.ren, CV.ren, Ob.ren, pinR, opd, lkp, nilS, CV.frz, TV.frz, RV.frz, Ob.frz, HS.frz, mapL, del, C5, box5, hsb, stM, h1, rowsM_set]
          · have hbk : b = k := by simp at h; omega
            subst hbk
            refine HT_run (by simp [evs, evc, evcS, okCall, brw, brwL, brwT, brwA, frzC, frzL, frzP, matC, calleeOf, RV.ownB, CV.ownB, RV.onlyB, TV.onlyB, CV.onlyB, HS.made, impB_self, impB_true, impB_false, impB_one, impB_and, impB_and2, impB_imp, pickB_or, pickB_and, pickB_true, pickB_false, wpR, gdOf, clsOf, stpF, stpG, strip, gdR, ungd_true, litG_ungd, litG_lit, litG_gd, litG_any, litG_sl, litG_ptr, litG_own, litG_at, litG_agg, evOp, evN, evA, evR, evW, evBin, evUn, evStr, evNil, evAgg, intsL, ptrish, nilPtr, capsOf, ownOf, matApp, mapOf, mapRes, cellsOf, opd, lkp, ins, del, HS.put, okDst, unmB, sortB, RV.menB, TV.menB, CV.menB, Ob.menB, CV.cell, CD.cell, Value.oneCell', thenQ, blockQ, loopQ, constRV, fieldOf, elemTy, idxArr, arrOf, partOf, litOf, Hl.lit, rowsOf, dataOf, baseOf, moreOf, setRow, hwa]; rfl) ?_
            refine ⟨a + 1, hla, by omega, ?_⟩
            exact le_mk (fun n => n) [] rfl (by simp [allL, ins, RV.okNil, TV.okNil, CV.okNil, Ob.okNil, RV.ren, TV.ren, CV.ren, Ob.ren, pinR, opd, lkp, nilS, CV.frz, TV.frz, RV.frz, Ob.frz, HS.frz, mapL, del, C4, li, i64, hwa]) (by simp [allL, ins, RV.okNil, TV.okNil, CV.okNil, Ob.okNil, RV.ren, TV.ren, CV.ren, Ob.ren, pinR, opd, lkp, nilS, CV.frz, TV.frz, RV.frz, Ob.frz, HS.frz, mapL, del, C4, box5, hsa]) (by simp [allL, ins, RV.okNil, TV.okNil, CV.okNil, Ob.okNil, RV.ren, TV.ren, CV.ren, Ob.ren, pinR, opd, lkp, nilS, CV.frz, TV.frz, RV.frz, Ob.frz, HS.frz, mapL, del, C4])
        · have hak : a = k := by simp at h; omega
          subst hak
          refine HT_run (by simp [evs, evc, evcS, okCall, brw, brwL, brwT, brwA, frzC, frzL, frzP, matC, calleeOf, RV.ownB, CV.ownB, RV.onlyB, TV.onlyB, CV.onlyB, HS.made, impB_self, impB_true, impB_false, impB_one, impB_and, impB_and2, impB_imp, pickB_or, pickB_and, pickB_true, pickB_false, wpR, gdOf, clsOf, stpF, stpG, strip, gdR, ungd_true, litG_ungd, litG_lit, litG_gd, litG_any, litG_sl, litG_ptr, litG_own, litG_at, litG_agg, evOp, evN, evA, evR, evW, evBin, evUn, evStr, evNil, evAgg, intsL, ptrish, nilPtr, capsOf, ownOf, matApp, mapOf, mapRes, cellsOf, opd, lkp, ins, del, HS.put, okDst, unmB, sortB, RV.menB, TV.menB, CV.menB, Ob.menB, CV.cell, CD.cell, Value.oneCell', thenQ, blockQ, loopQ, constRV, fieldOf, elemTy, idxArr, arrOf, partOf, litOf, Hl.lit, rowsOf, dataOf, baseOf, moreOf, setRow, hwm]; rfl) ?_
          refine ⟨m + 1, hlm, by omega, ?_⟩
          exact le_mk (fun n => n) [] rfl (by simp [allL, ins, RV.okNil, TV.okNil, CV.okNil, Ob.okNil, RV.ren, TV.ren, CV.ren, Ob.ren, pinR, opd, lkp, nilS, CV.frz, TV.frz, RV.frz, Ob.frz, HS.frz, mapL, del, C3, li, i64, hwm]) (by simp [allL, ins, RV.okNil, TV.okNil, CV.okNil, Ob.okNil, RV.ren, TV.ren, CV.ren, Ob.ren, pinR, opd, lkp, nilS, CV.frz, TV.frz, RV.frz, Ob.frz, HS.frz, mapL, del, C3, box5, hsm]) (by simp [allL, ins, RV.okNil, TV.okNil, CV.okNil, Ob.okNil, RV.ren, TV.ren, CV.ren, Ob.ren, pinR, opd, lkp, nilS, CV.frz, TV.frz, RV.frz, Ob.frz, HS.frz, mapL, del, C3])
      · have hmk : m = k := by simp at h; omega
        subst hmk
        refine ⟨.inl rfl, _, le_frzM 1018 rfl, ⟨_, rfl, rfl⟩, ?_⟩
        simp [HS.frz, mapL, Ob.frz, CV.frz, del, lkp, box5, matC_rows, closeM]
end Go.Proofs.Ytkechegbfjggcaa
