/- T4: contracts of functions of the package, used by the proof of the claimed statement. Conditions: as each theorem states. -/
import Derived.Test.YtkechegbfjggcaaT3
set_option linter.unusedSimpArgs false
set_option linter.unusedVariables false
namespace Go.Proofs.Ytkechegbfjggcaa
open Go Go.Hl

def flp (M : Nat → Nat → Bool) : Nat → Nat → Bool := fun a b => M b a
def okRow (n : Nat) (M : Nat → Nat → Bool) (a : Nat) : Bool := (List.range n).all fun b => (bndO n M a b).isSome && (bndO n (flp M) a b).isSome
/-- the first row that has no bounds, n if there is none -/
def badRow (n : Nat) (M : Nat → Nat → Bool) : Nat := ((List.range n).find? fun a => !okRow n M a).getD n
def rowsJ (n : Nat) (J : Nat → Nat → Int) (k : Nat) : List (List CD) := (List.range k).map fun a => [.sl 1 (rowI n J a)]
def rowZ (n : Nat) (J : Nat → Nat → Int) (a j : Nat) : List (List CD) := (List.range n).map fun b => if b < j then [i64 (J a b)] else [i64 0]
theorem badRow_at {n k : Nat} {M : Nat → Nat → Bool} (hk : k < n) (h : ∀ a, a < k → okRow n M a = true) (hb : okRow n M k = false) : badRow n M = k := by
  unfold badRow
  rw [show n = k + (n - k) by omega, List.range_add, List.find?_append]
  rw [show k + (n - k) = n by omega]
  have : (List.range k).find? (fun a => !okRow n M a) = none := by
    rw [List.find?_eq_none]
    intro x hx
    simp [h x (by simpa using hx)]
  rw [this]
  rw [show n - k = (n - k - 1) + 1 by omega, List.range_succ_eq_map]
  simp [hb]
theorem badRow_none {n : Nat} {M : Nat → Nat → Bool} (h : ∀ a, a < n → okRow n M a = true) : badRow n M = n := by
  unfold badRow
  have : (List.range n).find? (fun a => !okRow n M a) = none := by
    rw [List.find?_eq_none]
    intro x hx
    simp [h x (by simpa using hx)]
  rw [this]; rfl
theorem badRow_le (n : Nat) (M : Nat → Nat → Bool) : badRow n M ≤ n := by
  unfold badRow
  cases h : (List.range n).find? fun a => !okRow n M a with
  | none => simp
  | some x =>
    have := List.mem_of_find?_eq_some h
    simp at this ⊢
    omega
theorem rowZ_len (n : Nat) (J : Nat → Nat → Int) (a j : Nat) : (rowZ n J a j).length = n := by simp [rowZ]
@[simp] theorem rowZ_getE {n a j b : Nat} {J : Nat → Nat → Int} (h : b < (rowZ n J a j).length) : (rowZ n J a j)[b]'h = if b < j then [i64 (J a b)] else [i64 0] := by simp [rowZ]
theorem rowZ_zero (n : Nat) (J : Nat → Nat → Int) (a : Nat) : rowZ n J a 0 = List.replicate n [i64 0] := by
  apply List.ext_getElem?
  intro i
  by_cases h : i < n <;> simp [rowZ, List.getElem?_replicate, h]
theorem rowZ_full (n : Nat) (J : Nat → Nat → Int) (a : Nat) : rowZ n J a n = rowI n J a := by
  apply List.ext_getElem?
  intro i
  by_cases h : i < n <;> simp [rowZ, rowI, h]
theorem rowZ_succ {n j : Nat} {J : Nat → Nat → Int} {a : Nat} (h : j < n) : (rowZ n J a j).set j [i64 (J a j)] = rowZ n J a (j + 1) := by
  apply List.ext_getElem?
  intro i
  rw [List.getElem?_set, rowZ_len]
  by_cases e : j = i
  · subst e; simp [rowZ, h]
  · rw [if_neg e]
    by_cases hi : i < n
    · have e2 : (i < j) ↔ (i < j + 1) := by omega
      simp [rowZ, hi, e2]
    · simp [rowZ, hi]
theorem rowsJ_len (n : Nat) (J : Nat → Nat → Int) (k : Nat) : (rowsJ n J k).length = k := by simp [rowsJ]
theorem rowsJ_succ (n : Nat) (J : Nat → Nat → Int) (k : Nat) : rowsJ n J (k + 1) = rowsJ n J k ++ [[.sl 1 (rowI n J k)]] := by simp [rowsJ, List.range_succ]

def box5b (names : List ByteArray) (ix bl : CD) (j m : Nat) : Ob := .box [.c (nsC names), .c ix, .c bl, .own j, .own m]
def D1 (names : List ByteArray) (ix bl : CD) (n : Nat) (J K : Nat → Nat → Int) (k : Nat) : HS :=
  ⟨85, [(1, .v (.one (.at_ 1001 0))), (3, .v (li n)), (4, .v (.one (.fn 44 [(1001, 0)]))), (5, .v (.one (.fn 45 [(1001, 0)]))), (21, .v (li n)), (22, .v (li k))],
    [(1001, .box [.at_ 1000000 0]), (1003, .row 54 1 (rowsJ n J k)), (1004, .row 54 1 (rowsJ n K k)), (1000000, box5b names ix bl 1003 1004)]⟩
def D2 (names : List ByteArray) (ix bl : CD) (n : Nat) (J K : Nat → Nat → Int) (k j : Nat) : HS :=
  ⟨85, [(1, .v (.one (.at_ 1001 0))), (3, .v (li n)), (4, .v (.one (.fn 44 [(1001, 0)]))), (5, .v (.one (.fn 45 [(1001, 0)]))), (6, .v (li k)), (7, .v (.one (.own 1026))), (8, .v (.one (.own 1028))), (21, .v (li n)), (22, .v (li k)), (29, .v (li n)), (30, .v (li j))],
    [(1001, .box [.at_ 1000000 0]), (1003, .row 54 1 (rowsJ n J k)), (1004, .row 54 1 (rowsJ n K k)), (1026, .row 3 1 (rowZ n J k j)), (1028, .row 3 1 (rowZ n K k j)), (1000000, box5b names ix bl 1003 1004)]⟩

def D3 (names : List ByteArray) (ix bl : CD) (n : Nat) (J K : Nat → Nat → Int) (k : Nat) : HS :=
  ⟨85, [(1, .v (.one (.at_ 1001 0))), (3, .v (li n)), (4, .v (.one (.fn 44 [(1001, 0)]))), (5, .v (.one (.fn 45 [(1001, 0)]))), (7, .v (.one (.c (.sl 1 (rowI n J k))))), (8, .v (.one (.c (.sl 1 (rowI n K k))))), (21, .v (li n)), (22, .v (li k))],
    [(1001, .box [.at_ 1000000 0]), (1003, .row 54 1 (rowsJ n J k)), (1004, .row 54 1 (rowsJ n K k)), (1000000, box5b names ix bl 1003 1004)]⟩

set_option maxRecDepth 100000 in
theorem bounds_con (names : List ByteArray) (n : Nat) (hn : names.length = n) (h12 : n ≤ 12) (M : Nat → Nat → Bool) (il : List (Value × CD)) :
    ConIO Try.prog 38 [nsC names, .mp il, matB n M, .lit nilS, .lit nilS] [] (.v (lb (decide (badRow n M = n)))) [nsC names, .mp il, matB n M, .sl 1 (rowsJ n (bndI n M) (badRow n M)), .sl 1 (rowsJ n (bndI n (flp M)) (badRow n M))] := by
  have hbad := @badRow_at n
  have hnone := @badRow_none n M
  generalize hbr : badRow n M = br
  refine con_io_of_HT Try.func38 rfl (by kernel_rfl) (Nat.le_of_ble_eq_true rfl) ?_
  simp only [Try.f38]
  have hup : ∀ (jn mt : CD) (a b : Nat), a < n → b < n → ∀ d, Con Try.prog 46 true [.one (.c (latD names (.mp il) (matB n M) jn mt)), li a, li b, .one (.c (.fn 44 [.ptr [latD names (.mp il) (matB n M) jn mt]]))] (.tup [li (bndI n M a b), lb (bndO n M a b).isSome]) none d :=
    fun jn mt a b ha hb d => bound_con names n hn h12 M 44 _ (.mp il) _ jn mt (fun a b ha hb d => upper_con names n M (.mp il) jn mt a b ha hb d) a b ha hb d
  have hlo : ∀ (jn mt : CD) (a b : Nat), a < n → b < n → ∀ d, Con Try.prog 46 true [.one (.c (latD names (.mp il) (matB n M) jn mt)), li a, li b, .one (.c (.fn 45 [.ptr [latD names (.mp il) (matB n M) jn mt]]))] (.tup [li (bndI n (flp M) a b), lb (bndO n (flp M) a b).isSome]) none d :=
    fun jn mt a b ha hb d => bound_con names n hn h12 (flp M) 45 _ (.mp il) _ jn mt (fun a b ha hb d => lower_con names n M (.mp il) jn mt a b ha hb d) a b ha hb d
  refine HT_seq (HT_run (by simp [evs, evc, evcS, okCall, brw, brwL, brwT, brwA, frzC, frzL, frzP, matC, calleeOf, RV.ownB, CV.ownB, RV.onlyB, TV.onlyB, CV.onlyB, HS.made, impB_self, impB_true, impB_false, impB_one, impB_and, impB_and2, impB_imp, pickB_or, pickB_and, pickB_true, pickB_false, wpR, gdOf, clsOf, stpF, stpG, strip, gdR, ungd_true, litG_ungd, litG_lit, litG_gd, litG_any, litG_sl, litG_ptr, litG_own, litG_at, litG_agg, evOp, evN, evA, evR, evW, evBin, evUn, evStr, evNil, evAgg, intsL, ptrish, nilPtr, capsOf, ownOf, matApp, mapOf, mapRes, cellsOf, opd, lkp, ins, del, HS.put, okDst, unmB, sortB, RV.menB, TV.menB, CV.menB, Ob.menB, CV.cell, CD.cell, Value.oneCell', thenQ, blockQ, loopQ, constRV, fieldOf, elemTy, idxArr, arrOf, partOf, litOf, Hl.lit, rowsOf, dataOf, baseOf, moreOf, setRow, regsOf, nsC]; rfl) ?_)
  refine HT_seq (HT_run (by simp [evs, evc, evcS, okCall, brw, brwL, brwT, brwA, frzC, frzL, frzP, matC, calleeOf, RV.ownB, CV.ownB, RV.onlyB, TV.onlyB, CV.onlyB, HS.made, impB_self, impB_true, impB_false, impB_one, impB_and, impB_and2, impB_imp, pickB_or, pickB_and, pickB_true, pickB_false, wpR, gdOf, clsOf, stpF, stpG, strip, gdR, ungd_true, litG_ungd, litG_lit, litG_gd, litG_any, litG_sl, litG_ptr, litG_own, litG_at, litG_agg, evOp, evN, evA, evR, evW, evBin, evUn, evStr, evNil, evAgg, intsL, ptrish, nilPtr, capsOf, ownOf, matApp, mapOf, mapRes, cellsOf, opd, lkp, ins, del, HS.put, okDst, unmB, sortB, RV.menB, TV.menB, CV.menB, Ob.menB, CV.cell, CD.cell, Value.oneCell', thenQ, blockQ, loopQ, constRV, fieldOf, elemTy, idxArr, arrOf, partOf, litOf, Hl.lit, rowsOf, dataOf, baseOf, moreOf, setRow, hn]; rfl) ?_)
  refine HT_seq (HT_run (by simp [evs, evc, evcS, okCall, brw, brwL, brwT, brwA, frzC, frzL, frzP, matC, calleeOf, RV.ownB, CV.ownB, RV.onlyB, TV.onlyB, CV.onlyB, HS.made, impB_self, impB_true, impB_false, impB_one, impB_and, impB_and2, impB_imp, pickB_or, pickB_and, pickB_true, pickB_false, wpR, gdOf, clsOf, stpF, stpG, strip, gdR, ungd_true, litG_ungd, litG_lit, litG_gd, litG_any, litG_sl, litG_ptr, litG_own, litG_at, litG_agg, evOp, evN, evA, evR, evW, evBin, evUn, evStr, evNil, evAgg, intsL, ptrish, nilPtr, capsOf, ownOf, matApp, mapOf, mapRes, cellsOf, opd, lkp, ins, del, HS.put, okDst, unmB, sortB, RV.menB, TV.menB, CV.menB, Ob.menB, CV.cell, CD.cell, Value.oneCell', thenQ, blockQ, loopQ, constRV, fieldOf, elemTy, idxArr, arrOf, partOf, litOf, Hl.lit, rowsOf, dataOf, baseOf, moreOf, setRow]; rfl) ?_)
  refine HT_seq (HT_run (by simp [evs, evc, evcS, okCall, brw, brwL, brwT, brwA, frzC, frzL, frzP, matC, calleeOf, RV.ownB, CV.ownB, RV.onlyB, TV.onlyB, CV.onlyB, HS.made, impB_self, impB_true, impB_false, impB_one, impB_and, impB_and2, impB_imp, pickB_or, pickB_and, pickB_true, pickB_false, wpR, gdOf, clsOf, stpF, stpG, strip, gdR, ungd_true, litG_ungd, litG_lit, litG_gd, litG_any, litG_sl, litG_ptr, litG_own, litG_at, litG_agg, evOp, evN, evA, evR, evW, evBin, evUn, evStr, evNil, evAgg, intsL, ptrish, nilPtr, capsOf, ownOf, matApp, mapOf, mapRes, cellsOf, opd, lkp, ins, del, HS.put, okDst, unmB, sortB, RV.menB, TV.menB, CV.menB, Ob.menB, CV.cell, CD.cell, Value.oneCell', thenQ, blockQ, loopQ, constRV, fieldOf, elemTy, idxArr, arrOf, partOf, litOf, Hl.lit, rowsOf, dataOf, baseOf, moreOf, setRow]; rfl) ?_)
  refine HT_seq (HT_seq (HT_run (by simp [evs, evc, evcS, okCall, brw, brwL, brwT, brwA, frzC, frzL, frzP, matC, calleeOf, RV.ownB, CV.ownB, RV.onlyB, TV.onlyB, CV.onlyB, HS.made, impB_self, impB_true, impB_false, impB_one, impB_and, impB_and2, impB_imp, pickB_or, pickB_and, pickB_true, pickB_false, wpR, gdOf, clsOf, stpF, stpG, strip, gdR, ungd_true, litG_ungd, litG_lit, litG_gd, litG_any, litG_sl, litG_ptr, litG_own, litG_at, litG_agg, evOp, evN, evA, evR, evW, evBin, evUn, evStr, evNil, evAgg, intsL, ptrish, nilPtr, capsOf, ownOf, matApp, mapOf, mapRes, cellsOf, opd, lkp, ins, del, HS.put, okDst, unmB, sortB, RV.menB, TV.menB, CV.menB, Ob.menB, CV.cell, CD.cell, Value.oneCell', thenQ, blockQ, loopQ, constRV, fieldOf, elemTy, idxArr, arrOf, partOf, litOf, Hl.lit, rowsOf, dataOf, baseOf, moreOf, setRow]; rfl) ?_))
  refine HT_block (HT_loop (D1 names (.mp il) (matB n M) n (bndI n M) (bndI n (flp M))) (fun k => k ≤ n ∧ ∀ a, a < k → okRow n M a = true) (fun k => n - k) 0 ⟨Nat.zero_le _, by simp⟩ ?_ ?_)
  · refine le_mk (fun n => 1) [1003, 1004] rfl (by simp [allL, ins, RV.okNil, TV.okNil, CV.okNil, Ob.okNil, RV.ren, TV.ren, CV.ren, Ob.ren, pinR, opd, lkp, nilS, CV.frz, TV.frz, RV.frz, Ob.frz, HS.frz, mapL, del, D1, li, i64]) ?_ (by simp [allL, ins, RV.okNil, TV.okNil, CV.okNil, Ob.okNil, RV.ren, TV.ren, CV.ren, Ob.ren, pinR, opd, lkp, nilS, CV.frz, TV.frz, RV.frz, Ob.frz, HS.frz, mapL, del, D1])
    simp [allL, ins, RV.okNil, TV.okNil, CV.okNil, Ob.okNil, RV.ren, TV.ren, CV.ren, Ob.ren, pinR, opd, lkp, nilS, CV.frz, TV.frz, RV.frz, Ob.frz, HS.frz, mapL, del, D1, box5b, nsC, rowsJ]
  rintro k ⟨hk, hall⟩
  simp only [D1, box5b]
  refine HT_seq (HT_run (by simp [evs, evc, evcS, okCall, brw, brwL, brwT, brwA, frzC, frzL, frzP, matC, calleeOf, RV.ownB, CV.ownB, RV.onlyB, TV.onlyB, CV.onlyB, HS.made, impB_self, impB_true, impB_false, impB_one, impB_and, impB_and2, impB_imp, pickB_or, pickB_and, pickB_true, pickB_false, wpR, gdOf, clsOf, stpF, stpG, strip, gdR, ungd_true, litG_ungd, litG_lit, litG_gd, litG_any, litG_sl, litG_ptr, litG_own, litG_at, litG_agg, evOp, evN, evA, evR, evW, evBin, evUn, evStr, evNil, evAgg, intsL, ptrish, nilPtr, capsOf, ownOf, matApp, mapOf, mapRes, cellsOf, opd, lkp, ins, del, HS.put, okDst, unmB, sortB, RV.menB, TV.menB, CV.menB, Ob.menB, CV.cell, CD.cell, Value.oneCell', thenQ, blockQ, loopQ, constRV, fieldOf, elemTy, idxArr, arrOf, partOf, litOf, Hl.lit, rowsOf, dataOf, baseOf, moreOf, setRow, li, i64]; rfl) ?_)
  refine HT_seq (HT_cond rfl (fun h => HT_skip ?_) (fun h => HT_exit ?_))
  · have hlt : k < n := by simpa using h
    have hw : IntKind.i64.wrap ((k : Int) + 1) = (k : Int) + 1 := wrap_in (by omega) (by omega)
    refine HT_seq (HT_block (HT_seq (HT_run (by simp [evs, evc, evcS, okCall, brw, brwL, brwT, brwA, frzC, frzL, frzP, matC, calleeOf, RV.ownB, CV.ownB, RV.onlyB, TV.onlyB, CV.onlyB, HS.made, impB_self, impB_true, impB_false, impB_one, impB_and, impB_and2, impB_imp, pickB_or, pickB_and, pickB_true, pickB_false, wpR, gdOf, clsOf, stpF, stpG, strip, gdR, ungd_true, litG_ungd, litG_lit, litG_gd, litG_any, litG_sl, litG_ptr, litG_own, litG_at, litG_agg, evOp, evN, evA, evR, evW, evBin, evUn, evStr, evNil, evAgg, intsL, ptrish, nilPtr, capsOf, ownOf, matApp, mapOf, mapRes, cellsOf, opd, lkp, ins, del, HS.put, okDst, unmB, sortB, RV.menB, TV.menB, CV.menB, Ob.menB, CV.cell, CD.cell, Value.oneCell', thenQ, blockQ, loopQ, constRV, fieldOf, elemTy, idxArr, arrOf, partOf, litOf, Hl.lit, rowsOf, dataOf, baseOf, moreOf, setRow]; rfl) ?_)))
    refine HT_seq (HT_drun (by kernel_rfl) (by kernel_rfl) (by rfl) (by simp [evs, evc, evcS, okCall, brw, brwL, brwT, brwA, frzC, frzL, frzP, matC, calleeOf, RV.ownB, CV.ownB, RV.onlyB, TV.onlyB, CV.onlyB, HS.made, impB_self, impB_true, impB_false, impB_one, impB_and, impB_and2, impB_imp, pickB_or, pickB_and, pickB_true, pickB_false, wpR, gdOf, clsOf, stpF, stpG, strip, gdR, ungd_true, litG_ungd, litG_lit, litG_gd, litG_any, litG_sl, litG_ptr, litG_own, litG_at, litG_agg, evOp, evN, evA, evR, evW, evBin, evUn, evStr, evNil, evAgg, intsL, ptrish, nilPtr, capsOf, ownOf, matApp, mapOf, mapRes, cellsOf, opd, lkp, ins, del, HS.put, okDst, unmB, sortB, RV.menB, TV.menB, CV.menB, Ob.menB, CV.cell, CD.cell, Value.oneCell', thenQ, blockQ, loopQ, constRV, fieldOf, elemTy, idxArr, arrOf, partOf, litOf, Hl.lit, rowsOf, dataOf, baseOf, moreOf, setRow, show (n : Int) ≤ maxLen by unfold maxLen; omega, show 8 * (n : Int) ≤ 281474976710656 by omega]; rfl) ?_)
    refine HT_seq (HT_seq (HT_run (by simp [evs, evc, evcS, okCall, brw, brwL, brwT, brwA, frzC, frzL, frzP, matC, calleeOf, RV.ownB, CV.ownB, RV.onlyB, TV.onlyB, CV.onlyB, HS.made, impB_self, impB_true, impB_false, impB_one, impB_and, impB_and2, impB_imp, pickB_or, pickB_and, pickB_true, pickB_false, wpR, gdOf, clsOf, stpF, stpG, strip, gdR, ungd_true, litG_ungd, litG_lit, litG_gd, litG_any, litG_sl, litG_ptr, litG_own, litG_at, litG_agg, evOp, evN, evA, evR, evW, evBin, evUn, evStr, evNil, evAgg, intsL, ptrish, nilPtr, capsOf, ownOf, matApp, mapOf, mapRes, cellsOf, opd, lkp, ins, del, HS.put, okDst, unmB, sortB, RV.menB, TV.menB, CV.menB, Ob.menB, CV.cell, CD.cell, Value.oneCell', thenQ, blockQ, loopQ, constRV, fieldOf, elemTy, idxArr, arrOf, partOf, litOf, Hl.lit, rowsOf, dataOf, baseOf, moreOf, setRow]; rfl) ?_))
    refine HT_block (HT_loop (D2 names (.mp il) (matB n M) n (bndI n M) (bndI n (flp M)) k) (fun j => j ≤ n ∧ ∀ b, b < j → ((bndO n M k b).isSome && (bndO n (flp M) k b).isSome) = true) (fun j => n - j) 0 ⟨Nat.zero_le _, by simp⟩ ?_ ?_)
    · exact le_mk (fun n => if n = 1026 then 26 else if n = 1028 then 28 else n) [] rfl (by simp [allL, ins, RV.okNil, TV.okNil, CV.okNil, Ob.okNil, RV.ren, TV.ren, CV.ren, Ob.ren, pinR, opd, lkp, nilS, CV.frz, TV.frz, RV.frz, Ob.frz, HS.frz, mapL, del, D2, li, i64]) (by simp [allL, ins, RV.okNil, TV.okNil, CV.okNil, Ob.okNil, RV.ren, TV.ren, CV.ren, Ob.ren, pinR, opd, lkp, nilS, CV.frz, TV.frz, RV.frz, Ob.frz, HS.frz, mapL, del, D2, box5b, rowZ_zero, i64]) (by simp [allL, ins, RV.okNil, TV.okNil, CV.okNil, Ob.okNil, RV.ren, TV.ren, CV.ren, Ob.ren, pinR, opd, lkp, nilS, CV.frz, TV.frz, RV.frz, Ob.frz, HS.frz, mapL, del, D2])
    rintro j ⟨hj, hok⟩
    simp only [D2, box5b]
    refine HT_seq (HT_run (by simp [evs, evc, evcS, okCall, brw, brwL, brwT, brwA, frzC, frzL, frzP, matC, calleeOf, RV.ownB, CV.ownB, RV.onlyB, TV.onlyB, CV.onlyB, HS.made, impB_self, impB_true, impB_false, impB_one, impB_and, impB_and2, impB_imp, pickB_or, pickB_and, pickB_true, pickB_false, wpR, gdOf, clsOf, stpF, stpG, strip, gdR, ungd_true, litG_ungd, litG_lit, litG_gd, litG_any, litG_sl, litG_ptr, litG_own, litG_at, litG_agg, evOp, evN, evA, evR, evW, evBin, evUn, evStr, evNil, evAgg, intsL, ptrish, nilPtr, capsOf, ownOf, matApp, mapOf, mapRes, cellsOf, opd, lkp, ins, del, HS.put, okDst, unmB, sortB, RV.menB, TV.menB, CV.menB, Ob.menB, CV.cell, CD.cell, Value.oneCell', thenQ, blockQ, loopQ, constRV, fieldOf, elemTy, idxArr, arrOf, partOf, litOf, Hl.lit, rowsOf, dataOf, baseOf, moreOf, setRow, li, i64]; rfl) ?_)
    refine HT_seq (HT_cond rfl (fun h => HT_skip ?_) (fun h => HT_exit ?_))
    · have hlj : j < n := by simpa using h
      have hwj : IntKind.i64.wrap ((j : Int) + 1) = (j : Int) + 1 := wrap_in (by omega) (by omega)
      have c1 := fun d => hup (.sl 1 (rowsJ n (bndI n M) k)) (.sl 1 (rowsJ n (bndI n (flp M)) k)) k j hlt hlj d
      have c2 := fun d => hlo (.sl 1 (rowsJ n (bndI n M) k)) (.sl 1 (rowsJ n (bndI n (flp M)) k)) k j hlt hlj d
      refine HT_seq (HT_block (HT_seq (HT_run (by simp [evs, evc, evcS, okCall, brw, brwL, brwT, brwA, frzC, frzL, frzP, matC, calleeOf, RV.ownB, CV.ownB, RV.onlyB, TV.onlyB, CV.onlyB, HS.made, impB_self, impB_true, impB_false, impB_one, impB_and, impB_and2, impB_imp, pickB_or, pickB_and, pickB_true, pickB_false, wpR, gdOf, clsOf, stpF, stpG, strip, gdR, ungd_true, litG_ungd, litG_lit, litG_gd, litG_any, litG_sl, litG_ptr, litG_own, litG_at, litG_agg, evOp, evN, evA, evR, evW, evBin, evUn, evStr, evNil, evAgg, intsL, ptrish, nilPtr, capsOf, ownOf, matApp, mapOf, mapRes, cellsOf, opd, lkp, ins, del, HS.put, okDst, unmB, sortB, RV.menB, TV.menB, CV.menB, Ob.menB, CV.cell, CD.cell, Value.oneCell', thenQ, blockQ, loopQ, constRV, fieldOf, elemTy, idxArr, arrOf, partOf, litOf, Hl.lit, rowsOf, dataOf, baseOf, moreOf, setRow]; rfl) ?_)))
      refine HT_seq (HT_runc [⟨true, .tup [li (bndI n M k j), lb (bndO n M k j).isSome], none⟩] (by simp [evs, evc, evcS, okCall, brw, brwL, brwT, brwA, frzC, frzL, frzP, matC, calleeOf, RV.ownB, CV.ownB, RV.onlyB, TV.onlyB, CV.onlyB, HS.made, impB_self, impB_true, impB_false, impB_one, impB_and, impB_and2, impB_imp, pickB_or, pickB_and, pickB_true, pickB_false, wpR, gdOf, clsOf, stpF, stpG, strip, gdR, ungd_true, litG_ungd, litG_lit, litG_gd, litG_any, litG_sl, litG_ptr, litG_own, litG_at, litG_agg, evOp, evN, evA, evR, evW, evBin, evUn, evStr, evNil, evAgg, intsL, ptrish, nilPtr, capsOf, ownOf, matApp, mapOf, mapRes, cellsOf, opd, lkp, ins, del, HS.put, okDst, unmB, sortB, RV.menB, TV.menB, CV.menB, Ob.menB, CV.cell, CD.cell, Value.oneCell', thenQ, blockQ, loopQ, constRV, fieldOf, elemTy, idxArr, arrOf, partOf, litOf, Hl.lit, rowsOf, dataOf, baseOf, moreOf, setRow, box5b, nsC, matB, li, i64, lb, bC]; first | exact ⟨rfl, Iff.rfl⟩ | rfl) (by simpa only [latD, nsC, matB, li, i64, lb, bC] using c1 _) ?_)
      refine HT_seq (HT_runc [⟨true, .tup [li (bndI n (flp M) k j), lb (bndO n (flp M) k j).isSome], none⟩] (by simp [evs, evc, evcS, okCall, brw, brwL, brwT, brwA, frzC, frzL, frzP, matC, calleeOf, RV.ownB, CV.ownB, RV.onlyB, TV.onlyB, CV.onlyB, HS.made, impB_self, impB_true, impB_false, impB_one, impB_and, impB_and2, impB_imp, pickB_or, pickB_and, pickB_true, pickB_false, wpR, gdOf, clsOf, stpF, stpG, strip, gdR, ungd_true, litG_ungd, litG_lit, litG_gd, litG_any, litG_sl, litG_ptr, litG_own, litG_at, litG_agg, evOp, evN, evA, evR, evW, evBin, evUn, evStr, evNil, evAgg, intsL, ptrish, nilPtr, capsOf, ownOf, matApp, mapOf, mapRes, cellsOf, opd, lkp, ins, del, HS.put, okDst, unmB, sortB, RV.menB, TV.menB, CV.menB, Ob.menB, CV.cell, CD.cell, Value.oneCell', thenQ, blockQ, loopQ, constRV, fieldOf, elemTy, idxArr, arrOf, partOf, litOf, Hl.lit, rowsOf, dataOf, baseOf, moreOf, setRow, box5b, nsC, matB, li, i64, lb, bC]; first | exact ⟨rfl, Iff.rfl⟩ | rfl) (by simpa only [latD, nsC, matB, li, i64, lb, bC] using c2 _) ?_)
      refine HT_seq (HT_seq (HT_run (by simp [evs, evc, evcS, okCall, brw, brwL, brwT, brwA, frzC, frzL, frzP, matC, calleeOf, RV.ownB, CV.ownB, RV.onlyB, TV.onlyB, CV.onlyB, HS.made, impB_self, impB_true, impB_false, impB_one, impB_and, impB_and2, impB_imp, pickB_or, pickB_and, pickB_true, pickB_false, wpR, gdOf, clsOf, stpF, stpG, strip, gdR, ungd_true, litG_ungd, litG_lit, litG_gd, litG_any, litG_sl, litG_ptr, litG_own, litG_at, litG_agg, evOp, evN, evA, evR, evW, evBin, evUn, evStr, evNil, evAgg, intsL, ptrish, nilPtr, capsOf, ownOf, matApp, mapOf, mapRes, cellsOf, opd, lkp, ins, del, HS.put, okDst, unmB, sortB, RV.menB, TV.menB, CV.menB, Ob.menB, CV.cell, CD.cell, Value.oneCell', thenQ, blockQ, loopQ, constRV, fieldOf, elemTy, idxArr, arrOf, partOf, litOf, Hl.lit, rowsOf, dataOf, baseOf, moreOf, setRow]; rfl) ?_))
      refine HT_cond rfl (fun h2 => ?_) (fun h2 => HT_skip ?_)
      · have hb : okRow n M k = false := by
          unfold okRow
          rw [List.all_eq_false]
          refine ⟨j, by simpa using hlj, ?_⟩
          simp only [Bool.or_eq_true, Bool.not_eq_true', Option.isSome_eq_false_iff, Option.isNone_iff_eq_none] at h2
          rcases h2 with h | h <;> simp [h]
        have hbr2 := hbad hlt hall hb
        have e : br = k := hbr.symm.trans hbr2
        subst e
        refine HT_seq (HT_run (by simp [evs, evc, evcS, okCall, brw, brwL, brwT, brwA, frzC, frzL, frzP, matC, calleeOf, RV.ownB, CV.ownB, RV.onlyB, TV.onlyB, CV.onlyB, HS.made, impB_self, impB_true, impB_false, impB_one, impB_and, impB_and2, impB_imp, pickB_or, pickB_and, pickB_true, pickB_false, wpR, gdOf, clsOf, stpF, stpG, strip, gdR, ungd_true, litG_ungd, litG_lit, litG_gd, litG_any, litG_sl, litG_ptr, litG_own, litG_at, litG_agg, evOp, evN, evA, evR, evW, evBin, evUn, evStr, evNil, evAgg, intsL, ptrish, nilPtr, capsOf, ownOf, matApp, mapOf, mapRes, cellsOf, opd, lkp, ins, del, HS.put, okDst, unmB, sortB, RV.menB, TV.menB, CV.menB, Ob.menB, CV.cell, CD.cell, Value.oneCell', thenQ, blockQ, loopQ, constRV, fieldOf, elemTy, idxArr, arrOf, partOf, litOf, Hl.lit, rowsOf, dataOf, baseOf, moreOf, setRow]; rfl) ?_)
        refine HT_ret ⟨.inr rfl, _, le_trans (le_frz 1003 rfl) (le_frz 1004 rfl), ⟨_, rfl, ?_⟩, ?_⟩
        · simp [evs, evc, evcS, okCall, brw, brwL, brwT, brwA, frzC, frzL, frzP, matC, calleeOf, RV.ownB, CV.ownB, RV.onlyB, TV.onlyB, CV.onlyB, HS.made, impB_self, impB_true, impB_false, impB_one, impB_and, impB_and2, impB_imp, pickB_or, pickB_and, pickB_true, pickB_false, wpR, gdOf, clsOf, stpF, stpG, strip, gdR, ungd_true, litG_ungd, litG_lit, litG_gd, litG_any, litG_sl, litG_ptr, litG_own, litG_at, litG_agg, evOp, evN, evA, evR, evW, evBin, evUn, evStr, evNil, evAgg, intsL, ptrish, nilPtr, capsOf, ownOf, matApp, mapOf, mapRes, cellsOf, opd, lkp, ins, del, HS.put, okDst, unmB, sortB, RV.menB, TV.menB, CV.menB, Ob.menB, CV.cell, CD.cell, Value.oneCell', thenQ, blockQ, loopQ, constRV, fieldOf, elemTy, idxArr, arrOf, partOf, litOf, Hl.lit, rowsOf, dataOf, baseOf, moreOf, setRow, allL, ins, RV.okNil, TV.okNil, CV.okNil, Ob.okNil, RV.ren, TV.ren, CV.ren, Ob.ren, pinR, opd, lkp, nilS, CV.frz, TV.frz, RV.frz, Ob.frz, HS.frz, mapL, del, resR, lb, bC]; omega
        · simp [allL, ins, RV.okNil, TV.okNil, CV.okNil, Ob.okNil, RV.ren, TV.ren, CV.ren, Ob.ren, pinR, opd, lkp, nilS, CV.frz, TV.frz, RV.frz, Ob.frz, HS.frz, mapL, del, box5b, matB, nsC]
      · refine HT_run (by simp [evs, evc, evcS, okCall, brw, brwL, brwT, brwA, frzC, frzL, frzP, matC, calleeOf, RV.ownB, CV.ownB, RV.onlyB, TV.onlyB, CV.onlyB, HS.made, impB_self, impB_true, impB_false, impB_one, impB_and, impB_and2, impB_imp, pickB_or, pickB_and, pickB_true, pickB_false, wpR, gdOf, clsOf, stpF, stpG, strip, gdR, ungd_true, litG_ungd, litG_lit, litG_gd, litG_any, litG_sl, litG_ptr, litG_own, litG_at, litG_agg, evOp, evN, evA, evR, evW, evBin, evUn, evStr, evNil, evAgg, intsL, ptrish, nilPtr, capsOf, ownOf, matApp, mapOf, mapRes, cellsOf, opd, lkp, ins, del, HS.put, okDst, unmB, sortB, RV.menB, TV.menB, CV.menB, Ob.menB, CV.cell, CD.cell, Value.oneCell', thenQ, blockQ, loopQ, constRV, fieldOf, elemTy, idxArr, arrOf, partOf, litOf, Hl.lit, rowsOf, dataOf, baseOf, moreOf, setRow, rowZ_len, hlj]; rfl) ?_
        refine HT_run (by simp [evs, evc, evcS, okCall, brw, brwL, brwT, brwA, frzC, frzL, frzP, matC, calleeOf, RV.ownB, CV.ownB, RV.onlyB, TV.onlyB, CV.onlyB, HS.made, impB_self, impB_true, impB_false, impB_one, impB_and, impB_and2, impB_imp, pickB_or, pickB_and, pickB_true, pickB_false, wpR, gdOf, clsOf, stpF, stpG, strip, gdR, ungd_true, litG_ungd, litG_lit, litG_gd, litG_any, litG_sl, litG_ptr, litG_own, litG_at, litG_agg, evOp, evN, evA, evR, evW, evBin, evUn, evStr, evNil, evAgg, intsL, ptrish, nilPtr, capsOf, ownOf, matApp, mapOf, mapRes, cellsOf, opd, lkp, ins, del, HS.put, okDst, unmB, sortB, RV.menB, TV.menB, CV.menB, Ob.menB, CV.cell, CD.cell, Value.oneCell', thenQ, blockQ, loopQ, constRV, fieldOf, elemTy, idxArr, arrOf, partOf, litOf, Hl.lit, rowsOf, dataOf, baseOf, moreOf, setRow, hwj]; rfl) ?_
        have hok2 : ((bndO n M k j).isSome && (bndO n (flp M) k j).isSome) = true := by
          have h2' : ((bndO n M k j).isNone || (bndO n (flp M) k j).isNone) = false := h2
          cases h3 : bndO n M k j <;> cases h4 : bndO n (flp M) k j <;> rw [h3, h4] at h2' <;> first | rfl | cases h2'
        refine ⟨j + 1, ⟨hlj, fun b hb => ?_⟩, by omega, ?_⟩
        · by_cases e : b = j
          · subst e; exact hok2
          · exact hok b (by omega)
        · refine le_mk (fun n => n) [] rfl (by simp [allL, ins, RV.okNil, TV.okNil, CV.okNil, Ob.okNil, RV.ren, TV.ren, CV.ren, Ob.ren, pinR, opd, lkp, nilS, CV.frz, TV.frz, RV.frz, Ob.frz, HS.frz, mapL, del, D2, li, i64, hwj]) ?_ (by simp [allL, ins, RV.okNil, TV.okNil, CV.okNil, Ob.okNil, RV.ren, TV.ren, CV.ren, Ob.ren, pinR, opd, lkp, nilS, CV.frz, TV.frz, RV.frz, Ob.frz, HS.frz, mapL, del, D2])
          have h1 := @rowZ_succ n j (bndI n M) k hlj
          have h3 := @rowZ_succ n j (bndI n (flp M)) k hlj
          simp only [i64] at h1 h3
          simp [allL, ins, RV.okNil, TV.okNil, CV.okNil, Ob.okNil, RV.ren, TV.ren, CV.ren, Ob.ren, pinR, opd, lkp, nilS, CV.frz, TV.frz, RV.frz, Ob.frz, HS.frz, mapL, del, D2, box5b, nsC, matB, h1, h3]
    · have hjn : j = n := by simp at h; omega
      subst hjn
      have hokr : okRow j M k = true := by
        unfold okRow
        rw [List.all_eq_true]
        intro x hx
        exact hok x (by simpa using hx)
      refine HT_le (le_trans (le_frz 1026 rfl) (le_trans (le_frz 1028 rfl) (le_mk (s' := D3 names (.mp il) (matB j M) j (bndI j M) (bndI j (flp M)) k) (fun n => n) [] rfl ?_ ?_ ?_))) ?_
      · simp [allL, ins, RV.okNil, TV.okNil, CV.okNil, Ob.okNil, RV.ren, TV.ren, CV.ren, Ob.ren, pinR, opd, lkp, nilS, CV.frz, TV.frz, RV.frz, Ob.frz, HS.frz, mapL, del, D3, li, i64, rowZ_full]
      · simp [allL, ins, RV.okNil, TV.okNil, CV.okNil, Ob.okNil, RV.ren, TV.ren, CV.ren, Ob.ren, pinR, opd, lkp, nilS, CV.frz, TV.frz, RV.frz, Ob.frz, HS.frz, mapL, del, D3, box5b]
      · simp [allL, ins, RV.okNil, TV.okNil, CV.okNil, Ob.okNil, RV.ren, TV.ren, CV.ren, Ob.ren, pinR, opd, lkp, nilS, CV.frz, TV.frz, RV.frz, Ob.frz, HS.frz, mapL, del, D3]
      simp only [D3, box5b, li, i64]
      refine HT_drunH [(1, 1001), (68, 1000000), (75, 1000000), (81, 1000000), (83, 1000000)] (by kernel_rfl) (by kernel_rfl) (by rfl) (by simp [evs, evc, evcS, okCall, brw, brwL, brwT, brwA, frzC, frzL, frzP, matC, calleeOf, RV.ownB, CV.ownB, RV.onlyB, TV.onlyB, CV.onlyB, HS.made, impB_self, impB_true, impB_false, impB_one, impB_and, impB_and2, impB_imp, pickB_or, pickB_and, pickB_true, pickB_false, wpR, gdOf, clsOf, stpF, stpG, strip, gdR, ungd_true, litG_ungd, litG_lit, litG_gd, litG_any, litG_sl, litG_ptr, litG_own, litG_at, litG_agg, evOp, evN, evA, evR, evW, evBin, evUn, evStr, evNil, evAgg, intsL, ptrish, nilPtr, capsOf, ownOf, matApp, mapOf, mapRes, cellsOf, opd, lkp, ins, del, HS.put, okDst, unmB, sortB, RV.menB, TV.menB, CV.menB, Ob.menB, CV.cell, CD.cell, Value.oneCell', thenQ, blockQ, loopQ, constRV, fieldOf, elemTy, idxArr, arrOf, partOf, litOf, Hl.lit, rowsOf, dataOf, baseOf, moreOf, setRow, evsH, hokB, hintOf, rowsJ_len, show room (k + 1) 24 from room_of (by omega) (by omega)]; rfl) ?_
      refine HT_run (by simp [evs, evc, evcS, okCall, brw, brwL, brwT, brwA, frzC, frzL, frzP, matC, calleeOf, RV.ownB, CV.ownB, RV.onlyB, TV.onlyB, CV.onlyB, HS.made, impB_self, impB_true, impB_false, impB_one, impB_and, impB_and2, impB_imp, pickB_or, pickB_and, pickB_true, pickB_false, wpR, gdOf, clsOf, stpF, stpG, strip, gdR, ungd_true, litG_ungd, litG_lit, litG_gd, litG_any, litG_sl, litG_ptr, litG_own, litG_at, litG_agg, evOp, evN, evA, evR, evW, evBin, evUn, evStr, evNil, evAgg, intsL, ptrish, nilPtr, capsOf, ownOf, matApp, mapOf, mapRes, cellsOf, opd, lkp, ins, del, HS.put, okDst, unmB, sortB, RV.menB, TV.menB, CV.menB, Ob.menB, CV.cell, CD.cell, Value.oneCell', thenQ, blockQ, loopQ, constRV, fieldOf, elemTy, idxArr, arrOf, partOf, litOf, Hl.lit, rowsOf, dataOf, baseOf, moreOf, setRow, hw]; rfl) ?_
      refine ⟨k + 1, ⟨hlt, fun a ha => ?_⟩, by omega, ?_⟩
      · by_cases e : a = k
        · subst e; exact hokr
        · exact hall a (by omega)
      · exact le_mk (fun n => if n = 1003 then 72 else if n = 1004 then 79 else n) [] rfl (by simp [allL, ins, RV.okNil, TV.okNil, CV.okNil, Ob.okNil, RV.ren, TV.ren, CV.ren, Ob.ren, pinR, opd, lkp, nilS, CV.frz, TV.frz, RV.frz, Ob.frz, HS.frz, mapL, del, D1, li, i64, hw]) (by simp [allL, ins, RV.okNil, TV.okNil, CV.okNil, Ob.okNil, RV.ren, TV.ren, CV.ren, Ob.ren, pinR, opd, lkp, nilS, CV.frz, TV.frz, RV.frz, Ob.frz, HS.frz, mapL, del, D1, box5b, rowsJ_succ]) (by simp [allL, ins, RV.okNil, TV.okNil, CV.okNil, Ob.okNil, RV.ren, TV.ren, CV.ren, Ob.ren, pinR, opd, lkp, nilS, CV.frz, TV.frz, RV.frz, Ob.frz, HS.frz, mapL, del, D1])
  · have hkn : k = n := by simp at h; omega
    subst hkn
    have e : br = k := hbr.symm.trans (hnone hall)
    subst e
    refine HT_seq (HT_run (by simp [evs, evc, evcS, okCall, brw, brwL, brwT, brwA, frzC, frzL, frzP, matC, calleeOf, RV.ownB, CV.ownB, RV.onlyB, TV.onlyB, CV.onlyB, HS.made, impB_self, impB_true, impB_false, impB_one, impB_and, impB_and2, impB_imp, pickB_or, pickB_and, pickB_true, pickB_false, wpR, gdOf, clsOf, stpF, stpG, strip, gdR, ungd_true, litG_ungd, litG_lit, litG_gd, litG_any, litG_sl, litG_ptr, litG_own, litG_at, litG_agg, evOp, evN, evA, evR, evW, evBin, evUn, evStr, evNil, evAgg, intsL, ptrish, nilPtr, capsOf, ownOf, matApp, mapOf, mapRes, cellsOf, opd, lkp, ins, del, HS.put, okDst, unmB, sortB, RV.menB, TV.menB, CV.menB, Ob.menB, CV.cell, CD.cell, Value.oneCell', thenQ, blockQ, loopQ, constRV, fieldOf, elemTy, idxArr, arrOf, partOf, litOf, Hl.lit, rowsOf, dataOf, baseOf, moreOf, setRow]; rfl) ?_)
    refine HT_ret ⟨.inr rfl, _, le_trans (le_frz 1003 rfl) (le_frz 1004 rfl), ⟨_, rfl, ?_⟩, ?_⟩
    · simp [evs, evc, evcS, okCall, brw, brwL, brwT, brwA, frzC, frzL, frzP, matC, calleeOf, RV.ownB, CV.ownB, RV.onlyB, TV.onlyB, CV.onlyB, HS.made, impB_self, impB_true, impB_false, impB_one, impB_and, impB_and2, impB_imp, pickB_or, pickB_and, pickB_true, pickB_false, wpR, gdOf, clsOf, stpF, stpG, strip, gdR, ungd_true, litG_ungd, litG_lit, litG_gd, litG_any, litG_sl, litG_ptr, litG_own, litG_at, litG_agg, evOp, evN, evA, evR, evW, evBin, evUn, evStr, evNil, evAgg, intsL, ptrish, nilPtr, capsOf, ownOf, matApp, mapOf, mapRes, cellsOf, opd, lkp, ins, del, HS.put, okDst, unmB, sortB, RV.menB, TV.menB, CV.menB, Ob.menB, CV.cell, CD.cell, Value.oneCell', thenQ, blockQ, loopQ, constRV, fieldOf, elemTy, idxArr, arrOf, partOf, litOf, Hl.lit, rowsOf, dataOf, baseOf, moreOf, setRow, allL, ins, RV.okNil, TV.okNil, CV.okNil, Ob.okNil, RV.ren, TV.ren, CV.ren, Ob.ren, pinR, opd, lkp, nilS, CV.frz, TV.frz, RV.frz, Ob.frz, HS.frz, mapL, del, resR, lb, bC]
    · simp [allL, ins, RV.okNil, TV.okNil, CV.okNil, Ob.okNil, RV.ren, TV.ren, CV.ren, Ob.ren, pinR, opd, lkp, nilS, CV.frz, TV.frz, RV.frz, Ob.frz, HS.frz, mapL, del, box5b, matB, nsC]
end Go.Proofs.Ytkechegbfjggcaa
